/- What the Route laws share: alive, odd, Next, by their contracts. -/
import Derived.Test.YtaiggeogiolbnaaGc
import Derived.Test.YtaiggeogiolbnaaQ5
namespace Go.Proofs.Ytaiggeogiolbnaa.Q
open Go.RowKit Go.Proofs.YtaiggeogiolbnaaW.PrintWords Go.Proofs.YtaiggeogiolbnaaW.PrintLast Go.Proofs.YtaiggeogiolbnaaW.PrintMore Go.Proofs.YtaiggeogiolbnaaPl Go.Proofs.YtaiggeogiolbnaaEv

theorem route_Next_l0 (b0 b1 D b3 b4 b5 b6 b7 b8 b9 b10 b11 : Int) (hD0 : 0 ≤ D) (hD : D ≤ 16) (l : List Int) (hl : l.length ≤ 9223372036854775806) : ∀ (d k : Nat) (out i : Int), 0 ≤ i → i ≤ l.length → (l.length : Int) - i = d → d < k →
    route_Next.l0 k out l (l.length : Int) i b0 b1 D b3 b4 b5 b6 b7 b8 b9 b10 b11 = some ((l.drop i.toNat).foldl (nstep D) out) := by
  intro d
  induction d with
  | zero =>
    intro k out i h0 h1 hd hk
    obtain ⟨k, rfl⟩ : ∃ m, k = m + 1 := ⟨k - 1, by omega⟩
    rw [route_Next.l0, if_neg (by omega), drop_end l i (by omega)]
    rfl
  | succ d ih =>
    intro k out i h0 h1 hd hk
    obtain ⟨k, rfl⟩ : ∃ m, k = m + 1 := ⟨k - 1, by omega⟩
    have e := fun o => ih k o (i + 1) (by omega) (by omega) (by omega) (by omega)
    rw [drop_at 0 l i h0 (by omega), List.foldl_cons]
    rw [route_Next.l0, if_pos (by omega), if_pos h0, if_pos (by omega), wrap_id (x := i + 1) (by omega) (by omega)]
    change _ = some (List.foldl (nstep D) (nstep D out (rd l i)) _)
    unfold nstep
    by_cases g0 : 0 ≤ rd l i
    · rw [if_pos (show rd l i ≥ 0 from g0)]
      by_cases g1 : rd l i < D
      · rw [if_pos g1, wrap_id (x := rd l i + 1) (by omega) (by omega)]
        by_cases g2 : rd l i + 1 < out
        · rw [if_pos g2, if_pos ⟨g0, g1, g2⟩, e]; rfl
        · rw [if_neg g2, if_neg (fun h => g2 h.2.2), e]; rfl
      · rw [if_neg g1, if_neg (fun h => g1 h.2.1), e]; rfl
    · rw [if_neg (show ¬ rd l i ≥ 0 from g0), if_neg (fun h => g0 h.1), e]; rfl
theorem route_Lost_f (b0 b1 D b3 b4 b5 b6 b7 b8 b9 b10 b11 : Int) (hD0 : 0 ≤ D) (hD : D ≤ 16) : route_Lost.f b0 b1 D b3 b4 b5 b6 b7 b8 b9 b10 b11 = some (D + 1) := by
  unfold route_Lost.f
  rw [wrap_id (by omega) (by omega)]
theorem route_Next_f (b0 b1 D b3 b4 b5 b6 b7 b8 b9 b10 b11 : Int) (hD0 : 0 ≤ D) (hD : D ≤ 16) (l : List Int) (hl : l.length ≤ 9223372036854775806) (k : Nat) (hk : l.length < k) :
    route_Next.f k b0 b1 D b3 b4 b5 b6 b7 b8 b9 b10 b11 l = some (nextv D l) := by
  unfold route_Next.f
  rw [route_Lost_f _ _ _ _ _ _ _ _ _ _ _ _ hD0 hD]
  simp only [Option.bind_some]
  rw [route_Next_l0 b0 b1 D b3 b4 b5 b6 b7 b8 b9 b10 b11 hD0 hD l hl l.length k (D + 1) 0 (by omega) (by omega) (by omega) hk]
  rfl
theorem odd_f (b0 b1 D b3 b4 b5 b6 b7 b8 b9 b10 b11 : Int) : clepsydralaw15_odd.f b0 b1 D b3 b4 b5 b6 b7 b8 b9 b10 b11 = some (decide (D < 0 ∨ D > 16)) := by
  unfold clepsydralaw15_odd.f
  by_cases h : D < 0
  · rw [if_pos h]; simp [h]
  · rw [if_neg h]; simp [h]
theorem Next_calls (b0 b1 D b3 b4 b5 b6 b7 b8 b9 b10 b11 : Int) (hD0 : 0 ≤ D) (hD : D ≤ 16) (A : Option Addr) (n c : Nat) (l : List Int) (w : World) (hr : Kd.C (Kd.int .i64) w A n l) (hc : n ≤ c) (hl : n ≤ 9223372036854775806) (r : Int) (h : nextv D l = r) :
    Calls Try.prog 14 #[.agg #[.int .i64 b0, .int .i64 b1, .int .i64 D, .int .i64 b3, .int .i64 b4, .int .i64 b5, .int .i64 b6, .int .i64 b7, .int .i64 b8, .int .i64 b9, .int .i64 b10, .int .i64 b11], .slice A n c] w fun e w' => e = .returned (.int .i64 r) ∧ Below w.heap.size w w' := by
  obtain rfl := hr.1
  exact route_Next.calls (l.length + 1) b0 b1 D b3 b4 b5 b6 b7 b8 b9 b10 b11 A c l r w hr hc (h ▸ route_Next_f b0 b1 D b3 b4 b5 b6 b7 b8 b9 b10 b11 hD0 hD l hl (l.length + 1) (by omega))
theorem alive_choose (A : Nat → Prop) (A1 : Option Addr) (w : World) (hA : ∀ k, A k → k < w.heap.size) (hr : Tr A w (fun W => Kd.C k38 W A1 1 [(⟨2, 0, ⟨0, 0⟩, 0, 3, true, false, ⟨0, 0⟩, 0, ⟨0, 0⟩, []⟩ : S38)])) :
    Calls Try.prog 19 #[.agg #[.int .i64 0, .int .i64 0, .int .i64 4, .int .i64 0, .int .i64 0, .int .i64 0, .int .i64 0, .int .i64 0, .int .i64 0, .int .i64 0, .int .i64 0, .int .i64 0], .slice A1 1 1] w fun e w' => (∃ A2 c2, e = .returned (.tuple #[.agg #[.int .i64 (⟨2, 0, ⟨0, 0⟩, 0, 3, true, false, ⟨0, 0⟩, 0, ⟨0, 0⟩, []⟩ : S38).f0, .int .i64 (⟨2, 0, ⟨0, 0⟩, 0, 3, true, false, ⟨0, 0⟩, 0, ⟨0, 0⟩, []⟩ : S38).f1, .int .i64 (⟨2, 0, ⟨0, 0⟩, 0, 3, true, false, ⟨0, 0⟩, 0, ⟨0, 0⟩, []⟩ : S38).f2.f0, .int .i64 (⟨2, 0, ⟨0, 0⟩, 0, 3, true, false, ⟨0, 0⟩, 0, ⟨0, 0⟩, []⟩ : S38).f2.f1, .int .i64 (⟨2, 0, ⟨0, 0⟩, 0, 3, true, false, ⟨0, 0⟩, 0, ⟨0, 0⟩, []⟩ : S38).f3, .int .i64 (⟨2, 0, ⟨0, 0⟩, 0, 3, true, false, ⟨0, 0⟩, 0, ⟨0, 0⟩, []⟩ : S38).f4, .bool (⟨2, 0, ⟨0, 0⟩, 0, 3, true, false, ⟨0, 0⟩, 0, ⟨0, 0⟩, []⟩ : S38).f5, .bool (⟨2, 0, ⟨0, 0⟩, 0, 3, true, false, ⟨0, 0⟩, 0, ⟨0, 0⟩, []⟩ : S38).f6, .int .i64 (⟨2, 0, ⟨0, 0⟩, 0, 3, true, false, ⟨0, 0⟩, 0, ⟨0, 0⟩, []⟩ : S38).f7.f0, .int .i64 (⟨2, 0, ⟨0, 0⟩, 0, 3, true, false, ⟨0, 0⟩, 0, ⟨0, 0⟩, []⟩ : S38).f7.f1, .int .i64 (⟨2, 0, ⟨0, 0⟩, 0, 3, true, false, ⟨0, 0⟩, 0, ⟨0, 0⟩, []⟩ : S38).f8, .int .i64 (⟨2, 0, ⟨0, 0⟩, 0, 3, true, false, ⟨0, 0⟩, 0, ⟨0, 0⟩, []⟩ : S38).f9.f0, .int .i64 (⟨2, 0, ⟨0, 0⟩, 0, 3, true, false, ⟨0, 0⟩, 0, ⟨0, 0⟩, []⟩ : S38).f9.f1, .slice A2 (⟨2, 0, ⟨0, 0⟩, 0, 3, true, false, ⟨0, 0⟩, 0, ⟨0, 0⟩, []⟩ : S38).f10.length c2], .bool true])) ∧ Below w.heap.size w w' := by
  refine (Choose_calls A 0 0 4 0 0 0 0 0 0 0 0 0 A1 1 [(⟨2, 0, ⟨0, 0⟩, 0, 3, true, false, ⟨0, 0⟩, 0, ⟨0, 0⟩, []⟩ : S38)] w hA hr).mono ?_
  rintro e w' ⟨A2, c2, rfl, hb, -⟩
  exact ⟨⟨A2, c2, rfl⟩, hb⟩
set_option maxHeartbeats 4000000 in
set_option maxRecDepth 100000 in
theorem alive_calls (w : World) : Calls Try.prog 12 #[] w fun e w' => e = .returned (.bool true) ∧ Below w.heap.size w w' := by
  have H := Fr.start (A := fun _ => False) (w := w) (p := fun _ => True) (fun _ h => h.elim) (Tr.true _ _)
  go_enter Try.func12, Try.ntmps12
  go_wp2_with (first
    | ((with_reducible refine gate_dst (N := 1) rfl ?_); refine fr_new H (N := 1) rfl rfl (cs := #[.int .i64 0, .int .i64 0, .int .i64 0, .int .i64 0, .int .i64 0, .int .i64 0, .int .i64 0, .int .i64 0, .int .i64 0, .int .i64 0, .int .i64 0, .int .i64 0]) (t := 23) ?hr ?_; (case hr => first | (go_simp; done) | (go_simp; rfl)); intro g1 w1 H1; clear H; have H := H1; clear H1)
    | ((with_reducible refine gate_store (t := 23) (p := 1) rfl ?_); refine fr_put H rfl rfl rfl rfl rfl (by repeat (first | exact At.head | apply At.tail)) (by rfl) (by kernel_rfl) (by simp [Value.oneCell']) ?_; intro w1_ H1; clear H; have H := H1; clear H1)
    | ((with_reducible refine gate_dst (N := 6) rfl ?_); refine fr_load H rfl rfl rfl (by repeat (first | exact At.head | apply At.tail)) Try.underlying23 rfl (by kernel_rfl) ?_)
    | ((with_reducible refine gate_dst (N := 2) rfl ?_); refine fr_new H (N := 2) rfl rfl (cs := #[.int .i64 0, .int .i64 0, .int .i64 0, .int .i64 0, .int .i64 0, .int .i64 0, .bool false, .bool false, .int .i64 0, .int .i64 0, .int .i64 0, .int .i64 0, .int .i64 0, .slice none 0 0]) (t := 38) ?hr ?_; (case hr => first | (go_simp; done) | (go_simp; rfl)); intro g2 w2 H1; clear H; have H := H1; clear H1)
    | ((with_reducible refine gate_store (t := 38) (p := 2) rfl ?_); refine fr_put H rfl rfl rfl rfl rfl (by repeat (first | exact At.head | apply At.tail)) (by rfl) (by kernel_rfl) (by simp [Value.oneCell']) ?_; intro w2_ H1; clear H; have H := H1; clear H1)
    | ((with_reducible refine gate_dst (N := 12) rfl ?_); refine fr_load H rfl rfl rfl (by repeat (first | exact At.head | apply At.tail)) Try.underlying23 rfl (by kernel_rfl) ?_)
    | ((with_reducible refine gate_dst (N := 17) rfl ?_); (try (refine gate_guard (by rfl) ?_; dsimp only)); refine fr_load H rfl rfl rfl (by repeat (first | exact At.head | apply At.tail)) Try.underlying23 rfl (by kernel_rfl) ?_)
    | ((with_reducible refine gate_dst (N := 8) rfl ?_); (try (refine gate_guard (by rfl) ?_; dsimp only)); refine fr_lit H k38 [(⟨2, 0, ⟨0, 0⟩, 0, 3, true, false, ⟨0, 0⟩, 0, ⟨0, 0⟩, []⟩ : S38)] (inner := [.int .i64 2, .int .i64 0, .int .i64 0, .int .i64 0, .int .i64 0, .int .i64 3, .bool true, .bool false, .int .i64 0, .int .i64 0, .int .i64 0, .int .i64 0, .int .i64 0, .slice none 0 0]) (e := 38) (N := 8) rfl rfl ?hr rfl (by decide) ?hp ?_; (case hr => first | (go_simp; done) | (go_simp; rfl)); (case hp => exact fun W _ => reps_one (k38_mk W (⟨2, 0, ⟨0, 0⟩, 0, 3, true, false, ⟨0, 0⟩, 0, ⟨0, 0⟩, []⟩ : S38) (A13 := none) (c13 := 0) (Nat.le_refl _) (Kd.C_nil _ _))); intro g8 w8 H1; clear H; have H := H1; clear H1)
    | (go_at_call 19; (with_reducible refine (alive_choose _ _ _ H.avs (H.tr.imp (fun W h => h.2))).mono ?_); rintro e w' ⟨⟨A2, c2, rfl⟩, hb⟩; have H1 := H.call hb; clear hb; clear H; have H := H1; clear H1)
    | ((with_reducible refine gate_dst (N := 13) rfl ?_); (try (refine gate_guard (by rfl) ?_; dsimp only)); refine fr_lit H (Kd.int .i64) [3, 1, 9] (inner := [.int .i64 3, .int .i64 1, .int .i64 9]) (e := 3) (N := 13) rfl rfl ?hr rfl (by decide) ?hp ?_; (case hr => first | (go_simp; done) | (go_simp; rfl)); (case hp => exact fun _ _ => reps_ints _ _); intro g13 w13 H1; clear H; have H := H1; clear H1)
    | ((with_reducible refine gate_dst (N := 18) rfl ?_); (try (refine gate_guard (by rfl) ?_; dsimp only)); refine fr_lit H (Kd.int .i64) [4, 7] (inner := [.int .i64 4, .int .i64 7]) (e := 3) (N := 18) rfl rfl ?hr rfl (by decide) ?hp ?_; (case hr => first | (go_simp; done) | (go_simp; rfl)); (case hp => exact fun _ _ => reps_ints _ _); intro g18 w18 H1; clear H; have H := H1; clear H1)
    | (go_at_call 14; (with_reducible refine (Next_calls 0 0 4 0 0 0 0 0 0 0 0 0 (by decide) (by decide) _ 3 _ [3, 1, 9] _ H.now.2 (by decide) (by decide) 2 (by decide)).mono ?_); rintro e w' ⟨rfl, hb⟩; have H1 := H.call hb; clear hb; clear H; have H := H1; clear H1)
    | (go_at_call 14; (with_reducible refine (Next_calls 0 0 4 0 0 0 0 0 0 0 0 0 (by decide) (by decide) _ 2 _ [4, 7] _ H.now.2 (by decide) (by decide) 5 (by decide)).mono ?_); rintro e w' ⟨rfl, hb⟩; have H1 := H.call hb; clear hb; clear H; have H := H1; clear H1))
  go_ret
  exact ⟨rfl, H.below⟩
theorem odd_calls (b0 b1 D b3 b4 b5 b6 b7 b8 b9 b10 b11 : Int) (w : World) {r : Bool} (h : decide (D < 0 ∨ D > 16) = r) : Calls Try.prog 13 #[.agg #[.int .i64 b0, .int .i64 b1, .int .i64 D, .int .i64 b3, .int .i64 b4, .int .i64 b5, .int .i64 b6, .int .i64 b7, .int .i64 b8, .int .i64 b9, .int .i64 b10, .int .i64 b11]] w fun e w' => e = .returned (.bool r) ∧ Below w.heap.size w w' :=
  clepsydralaw15_odd.calls b0 b1 D b3 b4 b5 b6 b7 b8 b9 b10 b11 r w (h ▸ odd_f b0 b1 D b3 b4 b5 b6 b7 b8 b9 b10 b11)
theorem Lost_calls (b0 b1 D b3 b4 b5 b6 b7 b8 b9 b10 b11 : Int) (hD0 : 0 ≤ D) (hD : D ≤ 16) (w : World) : Calls Try.prog 16 #[.agg #[.int .i64 b0, .int .i64 b1, .int .i64 D, .int .i64 b3, .int .i64 b4, .int .i64 b5, .int .i64 b6, .int .i64 b7, .int .i64 b8, .int .i64 b9, .int .i64 b10, .int .i64 b11]] w fun e w' => e = .returned (.int .i64 (D + 1)) ∧ Below w.heap.size w w' :=
  route_Lost.calls b0 b1 D b3 b4 b5 b6 b7 b8 b9 b10 b11 (D + 1) w (route_Lost_f b0 b1 D b3 b4 b5 b6 b7 b8 b9 b10 b11 hD0 hD)
theorem ref_Next (b0 b1 D b3 b4 b5 b6 b7 b8 b9 b10 b11 : Int) (hD0 : 0 ≤ D) (hD : D ≤ 16) (l : List Int) (hl : l.length ≤ 1024) : ∀ (d k : Nat) (n : Int), 0 ≤ n → D - n = d → (∀ x, x ∈ l → ¬ (0 ≤ x ∧ x < n)) → d * (l.length + 2) + 1 < k →
    ∃ r, clepsydraref15_Next.l0 k l n b0 b1 D b3 b4 b5 b6 b7 b8 b9 b10 b11 = some r ∧ IsNext D l r := by
  intro d
  induction d with
  | zero =>
    intro k n h0 hd hn hk
    obtain ⟨k, rfl⟩ : ∃ m, k = m + 1 := ⟨k - 1, by omega⟩
    refine ⟨D + 1, ?_, .inl ⟨rfl, fun x hx h => hn x hx ⟨h.1, by omega⟩⟩⟩
    rw [clepsydraref15_Next.l0, if_neg (by omega), wrap_id (by omega) (by omega)]
  | succ d ih =>
    intro k n h0 hd hn hk
    obtain ⟨k, rfl⟩ : ∃ m, k = m + 1 := ⟨k - 1, by omega⟩
    have inner : ∀ (e k : Nat) (i : Int), 0 ≤ i → i ≤ l.length → (l.length : Int) - i = e → (∀ x, x ∈ l.take i.toNat → x ≠ n) → d * (l.length + 2) + 2 + e < k →
        ∃ r, clepsydraref15_Next.l1 k l n l (l.length : Int) i b0 b1 D b3 b4 b5 b6 b7 b8 b9 b10 b11 = some r ∧ IsNext D l r := by
      intro e
      induction e with
      | zero =>
        intro k i i0 i1 he hx hk
        obtain ⟨k, rfl⟩ : ∃ m, k = m + 1 := ⟨k - 1, by omega⟩
        rw [clepsydraref15_Next.l1, if_neg (by omega), wrap_id (x := n + 1) (by omega) (by omega)]
        refine ih k (n + 1) (by omega) (by omega) (fun x hm h => ?_) (by omega)
        rw [List.take_of_length_le (by omega)] at hx
        have a := hn x hm
        have b := hx x hm
        omega
      | succ e ihe =>
        intro k i i0 i1 he hx hk
        obtain ⟨k, rfl⟩ : ∃ m, k = m + 1 := ⟨k - 1, by omega⟩
        rw [clepsydraref15_Next.l1, if_pos (by omega), if_pos i0, if_pos (by omega), wrap_id (x := n + 1) (by omega) (by omega), wrap_id (x := i + 1) (by omega) (by omega)]
        by_cases g : rd l i = n
        · rw [if_pos g]
          refine ⟨n + 1, rfl, .inr ⟨n, g ▸ rd_mem l i i0 (by omega), h0, by omega, rfl, fun x hm x0 x1 => ?_⟩⟩
          have := hn x hm
          omega
        · rw [if_neg g]
          refine ihe k (i + 1) (by omega) (by omega) (by omega) (fun x hm => ?_) (by omega)
          rw [take_at 0 l i i0 (by omega)] at hm
          rcases List.mem_append.1 hm with hm | hm
          · exact hx x hm
          · rw [List.mem_singleton.1 hm]; exact g
    rw [clepsydraref15_Next.l0, if_pos (by omega)]
    refine inner l.length k 0 (by omega) (by omega) (by omega) (fun x hm => by simp at hm) ?_
    rw [Nat.add_mul] at hk
    omega
theorem refNext_calls (b0 b1 D b3 b4 b5 b6 b7 b8 b9 b10 b11 : Int) (hD0 : 0 ≤ D) (hD : D ≤ 16) (A : Option Addr) (n c : Nat) (l : List Int) (w : World) (hr : Kd.C (Kd.int .i64) w A n l) (hc : n ≤ c) (hl : n ≤ 1024) (r : Int) (h : nextv D l = r) :
    Calls Try.prog 15 #[.agg #[.int .i64 b0, .int .i64 b1, .int .i64 D, .int .i64 b3, .int .i64 b4, .int .i64 b5, .int .i64 b6, .int .i64 b7, .int .i64 b8, .int .i64 b9, .int .i64 b10, .int .i64 b11], .slice A n c] w fun e w' => e = .returned (.int .i64 r) ∧ Below w.heap.size w w' := by
  obtain rfl := hr.1
  obtain ⟨r', hr', hn⟩ := ref_Next b0 b1 D b3 b4 b5 b6 b7 b8 b9 b10 b11 hD0 hD l hl D.toNat 40000 0 (by omega) (by omega) (fun x _ hx => by omega) (by
    have : D.toNat * (l.length + 2) ≤ 16 * 1026 := Nat.mul_le_mul (by omega) (by omega)
    omega)
  have e := hn.unique (nextv_is D l)
  rw [h] at e
  subst e
  exact clepsydraref15_Next.calls 40000 b0 b1 D b3 b4 b5 b6 b7 b8 b9 b10 b11 A c l r' w hr hc hr'
end Go.Proofs.Ytaiggeogiolbnaa.Q
