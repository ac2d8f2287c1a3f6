/- RouteChooses: Usable and Choose answer what the document says, of all messages: the walk. -/
import Derived.Test.YtaiggeogiolbnaaRouteLaw
import Derived.Test.YtaiggeogiolbnaaQ7
import Derived.Test.YtaiggeogiolbnaaQ8
namespace Go.Proofs.Ytaiggeogiolbnaa.Q
open Go.RowKit Go.Proofs.YtaiggeogiolbnaaW.PrintWords Go.Proofs.YtaiggeogiolbnaaW.PrintLast Go.Proofs.YtaiggeogiolbnaaW.PrintMore Go.Proofs.YtaiggeogiolbnaaPl Go.Proofs.YtaiggeogiolbnaaEv

theorem refUsable_f (b0 b1 D b3 b4 b5 b6 b7 b8 b9 b10 b11 : Int) (m : S38) : clepsydraref15_Usable.f b0 b1 D b3 b4 b5 b6 b7 b8 b9 b10 b11 m.f0 m.f1 m.f2.f0 m.f2.f1 m.f3 m.f4 m.f5 m.f6 m.f7.f0 m.f7.f1 m.f8 m.f9.f0 m.f9.f1 m.f10 = some (us D m) := by
  unfold clepsydraref15_Usable.f us
  by_cases h1 : m.f5 = true
  · rw [if_pos h1]
    by_cases h0 : m.f0 = 2
    · rw [if_pos h0]
      by_cases h3 : m.f4 < D
      · rw [if_pos h3]
        by_cases h2 : 0 ≤ m.f4
        · rw [if_pos (show m.f4 ≥ 0 from h2)]; simp [h0, h1, h2, h3]
        · rw [if_neg (show ¬ m.f4 ≥ 0 from h2)]; simp [h2]
      · rw [if_neg h3]; simp [h3]
    · rw [if_neg h0]; simp [h0]
  · rw [if_neg h1]; simp [h1]
theorem before_f (a b : S38) : clepsydraref15_before.f a.f0 a.f1 a.f2.f0 a.f2.f1 a.f3 a.f4 a.f5 a.f6 a.f7.f0 a.f7.f1 a.f8 a.f9.f0 a.f9.f1 a.f10 b.f0 b.f1 b.f2.f0 b.f2.f1 b.f3 b.f4 b.f5 b.f6 b.f7.f0 b.f7.f1 b.f8 b.f9.f0 b.f9.f1 b.f10 = some (ltm a b) := by
  unfold clepsydraref15_before.f ltm
  by_cases h1 : a.f4 = b.f4
  · rw [if_pos h1]
    by_cases h2 : a.f3 = b.f3
    · rw [if_pos h2]; simp [h1, h2]
    · rw [if_neg h2]; simp [h1, h2]
  · rw [if_neg h1]; simp [h1]
/-- The reference's place, and what is picked. -/
def AtI (l : List S38) (x : Int) (s : Option S38) : Prop := (x = -1 ∧ s = none) ∨ (0 ≤ x ∧ x < (l.length : Int) ∧ s = some (rd_T38 l x))
theorem refChoose_l0 (b0 b1 D b3 b4 b5 b6 b7 b8 b9 b10 b11 : Int) (l : List S38) (hl : l.length ≤ 9223372036854775806) : ∀ (d k : Nat) (i x : Int) (s : Option S38), AtI l x s → 0 ≤ i → i ≤ l.length → (l.length : Int) - i = d → d < k →
    ∃ y, clepsydraref15_Choose.l0 k l x l (l.length : Int) i b0 b1 D b3 b4 b5 b6 b7 b8 b9 b10 b11 = some y ∧ AtI l y ((l.drop i.toNat).foldl (pstep (us D) ltm) s) := by
  intro d
  induction d with
  | zero =>
    intro k i x s hx h0 h1 hd hk
    obtain ⟨k, rfl⟩ : ∃ m, k = m + 1 := ⟨k - 1, by omega⟩
    rw [clepsydraref15_Choose.l0, if_neg (by omega), drop_end l i (by omega)]
    exact ⟨x, rfl, hx⟩
  | succ d ih =>
    intro k i x s hx h0 h1 hd hk
    obtain ⟨k, rfl⟩ : ∃ m, k = m + 1 := ⟨k - 1, by omega⟩
    have e := fun x s hx => ih k (i + 1) x s hx (by omega) (by omega) (by omega) (by omega)
    have hi : AtI l i (some (rd_T38 l i)) := .inr ⟨h0, by omega, rfl⟩
    rw [drop_at z38 l i h0 (by omega), List.foldl_cons]
    rw [clepsydraref15_Choose.l0, if_pos (by omega), if_pos h0, if_pos (by omega), wrap_id (x := i + 1) (by omega) (by omega), refUsable_f]
    simp only [Option.bind_some]
    change ∃ y, _ ∧ AtI l y (List.foldl _ (pstep (us D) ltm s (rd_T38 l i)) _)
    generalize rd_T38 l i = m at *
    cases hu : us D m with
    | false =>
      have hp : pstep (us D) ltm s m = s := by unfold pstep; simp [hu]
      rw [hp, if_neg (by simp)]
      exact e x s hx
    | true =>
      rcases hx with ⟨rfl, rfl⟩ | ⟨x0, x1, rfl⟩
      · have hp : pstep (us D) ltm none m = some m := by unfold pstep beats; simp [hu]
        rw [hp, if_pos rfl, if_pos (by omega)]
        exact e i (some m) hi
      · rw [if_pos rfl, if_neg (by omega), if_pos x0, if_pos x1, before_f]
        simp only [Option.bind_some]
        by_cases g : ltm m (rd_T38 l x) = true
        · have hp : pstep (us D) ltm (some (rd_T38 l x)) m = some m := by unfold pstep beats; simp [hu, g]
          rw [hp, if_pos g]
          exact e i (some m) hi
        · have hp : pstep (us D) ltm (some (rd_T38 l x)) m = some (rd_T38 l x) := by unfold pstep beats; simp [hu, g]
          rw [hp, if_neg g]
          exact e x _ (.inr ⟨x0, x1, rfl⟩)
theorem Tables_refl (l : List S84) (hl : l.length ≤ 9223372036854775806) : ∀ (d k : Nat) (i : Int), 0 ≤ i → i ≤ l.length → (l.length : Int) - i = d → d < k → clepsydraref06_Tables.l0 k l l (l.length : Int) i = some true := by
  intro d
  induction d with
  | zero =>
    intro k i h0 h1 hd hk
    obtain ⟨k, rfl⟩ : ∃ m, k = m + 1 := ⟨k - 1, by omega⟩
    rw [clepsydraref06_Tables.l0, if_neg (by omega)]
  | succ d ih =>
    intro k i h0 h1 hd hk
    obtain ⟨k, rfl⟩ : ∃ m, k = m + 1 := ⟨k - 1, by omega⟩
    rw [clepsydraref06_Tables.l0, if_pos (by omega), if_pos h0, if_pos (by omega), if_pos (by omega), if_neg (by simp), wrap_id (by omega) (by omega)]
    exact ih k (i + 1) (by omega) (by omega) (by omega) (by omega)
theorem Same_refl (a : S38) (k : Nat) (hk : a.f10.length < k) (hl : a.f10.length ≤ 9223372036854775806) : clepsydraref06_Same.f k a.f0 a.f1 a.f2.f0 a.f2.f1 a.f3 a.f4 a.f5 a.f6 a.f7.f0 a.f7.f1 a.f8 a.f9.f0 a.f9.f1 a.f10 a.f0 a.f1 a.f2.f0 a.f2.f1 a.f3 a.f4 a.f5 a.f6 a.f7.f0 a.f7.f1 a.f8 a.f9.f0 a.f9.f1 a.f10 = some true := by
  unfold clepsydraref06_Same.f clepsydraref06_Tables.f
  simp only [if_true, beq_self_eq_true, Bool.and_true]
  rw [Tables_refl a.f10 hl a.f10.length k 0 (by omega) (by omega) (by omega) hk]
  rfl
theorem refUs_calls (b0 b1 D b3 b4 b5 b6 b7 b8 b9 b10 b11 : Int) (m : S38) (A : Option Addr) (c : Nat) (w : World) (hr : Kd.C k84 w A m.f10.length m.f10) (hc : m.f10.length ≤ c) (r : Bool) (h : us D m = r) :
    Calls Try.prog 18 #[.agg #[.int .i64 b0, .int .i64 b1, .int .i64 D, .int .i64 b3, .int .i64 b4, .int .i64 b5, .int .i64 b6, .int .i64 b7, .int .i64 b8, .int .i64 b9, .int .i64 b10, .int .i64 b11], .agg #[.int .i64 m.f0, .int .i64 m.f1, .int .i64 m.f2.f0, .int .i64 m.f2.f1, .int .i64 m.f3, .int .i64 m.f4, .bool m.f5, .bool m.f6, .int .i64 m.f7.f0, .int .i64 m.f7.f1, .int .i64 m.f8, .int .i64 m.f9.f0, .int .i64 m.f9.f1, .slice A m.f10.length c]] w fun e w' => e = .returned (.bool r) ∧ Below w.heap.size w w' :=
  clepsydraref15_Usable.calls b0 b1 D b3 b4 b5 b6 b7 b8 b9 b10 b11 m.f0 m.f1 m.f2.f0 m.f2.f1 m.f3 m.f4 m.f5 m.f6 m.f7.f0 m.f7.f1 m.f8 m.f9.f0 m.f9.f1 A c m.f10 r w hr hc (h ▸ refUsable_f b0 b1 D b3 b4 b5 b6 b7 b8 b9 b10 b11 m)
theorem refChoose_calls (b0 b1 D b3 b4 b5 b6 b7 b8 b9 b10 b11 : Int) (A : Option Addr) (c : Nat) (l : List S38) (w : World) (hr : Kd.C k38 w A l.length l) (hc : l.length ≤ c) (y : Int) (h : clepsydraref15_Choose.f 2000 b0 b1 D b3 b4 b5 b6 b7 b8 b9 b10 b11 l = some y) :
    Calls Try.prog 20 #[.agg #[.int .i64 b0, .int .i64 b1, .int .i64 D, .int .i64 b3, .int .i64 b4, .int .i64 b5, .int .i64 b6, .int .i64 b7, .int .i64 b8, .int .i64 b9, .int .i64 b10, .int .i64 b11], .slice A l.length c] w fun e w' => e = .returned (.int .i64 y) ∧ Below w.heap.size w w' :=
  clepsydraref15_Choose.calls 2000 b0 b1 D b3 b4 b5 b6 b7 b8 b9 b10 b11 A c l y w hr hc h
theorem same_calls (x : S38) (A B : Option Addr) (c d : Nat) (w : World) (hl : x.f10.length ≤ 256) (hr : Kd.C k84 w A x.f10.length x.f10) (hc : x.f10.length ≤ c) (hr2 : Kd.C k84 w B x.f10.length x.f10) (hc2 : x.f10.length ≤ d) :
    Calls Try.prog 21 #[.agg #[.int .i64 x.f0, .int .i64 x.f1, .int .i64 x.f2.f0, .int .i64 x.f2.f1, .int .i64 x.f3, .int .i64 x.f4, .bool x.f5, .bool x.f6, .int .i64 x.f7.f0, .int .i64 x.f7.f1, .int .i64 x.f8, .int .i64 x.f9.f0, .int .i64 x.f9.f1, .slice A x.f10.length c], .agg #[.int .i64 x.f0, .int .i64 x.f1, .int .i64 x.f2.f0, .int .i64 x.f2.f1, .int .i64 x.f3, .int .i64 x.f4, .bool x.f5, .bool x.f6, .int .i64 x.f7.f0, .int .i64 x.f7.f1, .int .i64 x.f8, .int .i64 x.f9.f0, .int .i64 x.f9.f1, .slice B x.f10.length d]] w fun e w' => e = .returned (.bool true) ∧ Below w.heap.size w w' :=
  clepsydraref06_Same.calls 2000 x.f0 x.f1 x.f2.f0 x.f2.f1 x.f3 x.f4 x.f5 x.f6 x.f7.f0 x.f7.f1 x.f8 x.f9.f0 x.f9.f1 A c x.f10 x.f0 x.f1 x.f2.f0 x.f2.f1 x.f3 x.f4 x.f5 x.f6 x.f7.f0 x.f7.f1 x.f8 x.f9.f0 x.f9.f1 B d x.f10 true w hr hc hr2 hc2 (Same_refl x 2000 (by omega) (by omega))
theorem same0_calls (x : S38) (hx : x = z38) (A : Option Addr) (c : Nat) (w : World) (hr : Kd.C k84 w A x.f10.length x.f10) (hc : x.f10.length ≤ c) :
    Calls Try.prog 21 #[.agg #[.int .i64 x.f0, .int .i64 x.f1, .int .i64 x.f2.f0, .int .i64 x.f2.f1, .int .i64 x.f3, .int .i64 x.f4, .bool x.f5, .bool x.f6, .int .i64 x.f7.f0, .int .i64 x.f7.f1, .int .i64 x.f8, .int .i64 x.f9.f0, .int .i64 x.f9.f1, .slice A x.f10.length c], .agg #[.int .i64 0, .int .i64 0, .int .i64 0, .int .i64 0, .int .i64 0, .int .i64 0, .bool false, .bool false, .int .i64 0, .int .i64 0, .int .i64 0, .int .i64 0, .int .i64 0, .slice none 0 0]] w fun e w' => e = .returned (.bool true) ∧ Below w.heap.size w w' := by
  subst hx
  exact same_calls z38 A none c 0 w (by decide) hr hc (Kd.C_nil _ _) (by decide)
theorem tr_elem2 {A : Nat → Prop} {W : World} {A1 : Option Addr} {l : List S38} (h : Tr A W (fun W => Kd.C k38 W A1 l.length l)) (i : Int) (h0 : 0 ≤ i) (h1 : i < (l.length : Int)) :
    ∃ ad A2 c2, A1 = some ad ∧ (rd_T38 l i).f10.length ≤ c2 ∧ Tr A W (fun W => (∀ j u, ([.int .i64 (rd_T38 l i).f0, .int .i64 (rd_T38 l i).f1, .int .i64 (rd_T38 l i).f2.f0, .int .i64 (rd_T38 l i).f2.f1, .int .i64 (rd_T38 l i).f3, .int .i64 (rd_T38 l i).f4, .bool (rd_T38 l i).f5, .bool (rd_T38 l i).f6, .int .i64 (rd_T38 l i).f7.f0, .int .i64 (rd_T38 l i).f7.f1, .int .i64 (rd_T38 l i).f8, .int .i64 (rd_T38 l i).f9.f0, .int .i64 (rd_T38 l i).f9.f1, .slice A2 (rd_T38 l i).f10.length c2])[j]? = some u → W.cell? ((ad.add (i.toNat * 14)).add j) = some u) ∧ Kd.C k84 W A2 (rd_T38 l i).f10.length (rd_T38 l i).f10) := by
  obtain ⟨ad, c, rfl, _, hK, hcc, hok⟩ := Kd.F_get (d := k38) h z38 i h0 h1
  obtain ⟨A2, c2, rfl, h2, h3⟩ := k38_openF hK
  exact ⟨ad, A2, c2, rfl, h2, Tr.and (tr_cells (hok (by decide)) hcc) h3⟩
theorem choose_facts (b0 b1 D b3 b4 b5 b6 b7 b8 b9 b10 b11 : Int) (l : List S38) (hl : l.length ≤ 256) : ∃ y, clepsydraref15_Choose.f 2000 b0 b1 D b3 b4 b5 b6 b7 b8 b9 b10 b11 l = some y ∧ ((y = -1 ∧ (pick (us D) ltm l).isSome = false ∧ ((pick (us D) ltm l).getD z38) = z38) ∨ (0 ≤ y ∧ y < (l.length : Int) ∧ (pick (us D) ltm l).isSome = true ∧ ((pick (us D) ltm l).getD z38) = rd_T38 l y)) := by
  obtain ⟨y, hy, ha⟩ := refChoose_l0 b0 b1 D b3 b4 b5 b6 b7 b8 b9 b10 b11 l (by omega) l.length 2000 0 (-1) none (.inl ⟨rfl, rfl⟩) (by omega) (by omega) (by omega) (by omega)
  refine ⟨y, hy, ?_⟩
  have hp : AtI l y (pick (us D) ltm l) := ha
  generalize pick (us D) ltm l = s at hp
  rcases hp with ⟨rfl, rfl⟩ | ⟨y0, y1, rfl⟩
  · exact .inl ⟨rfl, rfl, rfl⟩
  · exact .inr ⟨y0, y1, rfl, rfl⟩
set_option maxHeartbeats 4000000 in
set_option maxRecDepth 100000 in
theorem clepsydralaw15_RouteChooses.calls (b0 b1 D b3 b4 b5 b6 b7 b8 b9 b10 b11 : Int) (A1 : Option Addr) (c1 : Nat) (l : List S38) (w : World) (hr : Kd.C k38 w A1 l.length l) (hc : l.length ≤ c1) :
    Calls Try.prog 4 #[.agg #[.int .i64 b0, .int .i64 b1, .int .i64 D, .int .i64 b3, .int .i64 b4, .int .i64 b5, .int .i64 b6, .int .i64 b7, .int .i64 b8, .int .i64 b9, .int .i64 b10, .int .i64 b11], .slice A1 l.length c1] w fun e w' => e = .returned (.bool true) ∧ Below w.heap.size w w' := by
  have hlm : l.length ≤ 9223372036854775807 := hr.2.1
  have H := Fr.start (A := fun _ => False) (w := w) (p := fun W => Kd.C k38 W A1 l.length l) (fun _ h => h.elim) (Tr.of_C hr k38_heap)
  clear hr
  go_enter Try.func4, Try.ntmps4
  by_cases hD : D < 0 ∨ D > 16
  · have HO := Lib.hid (decide_eq_true hD)
    clear hD
    go_wp2_with (first
      | ((with_reducible refine gate_dst (N := 2) rfl ?_); refine fr_box H rfl rfl rfl ?_; intro g2 w2 H1; clear H; have H := H1; clear H1)
      | ((with_reducible refine gate_dst (N := 12) rfl ?_); refine fr_load H rfl rfl rfl (by repeat (first | exact At.head | apply At.tail)) Try.underlying23 rfl (by kernel_rfl) ?_)
      | ((with_reducible refine gate_dst (N := 6) rfl ?_); refine fr_new H (N := 6) rfl rfl (cs := #[.int .i64 0, .int .i64 0, .int .i64 0, .int .i64 0, .int .i64 0, .int .i64 0, .bool false, .bool false, .int .i64 0, .int .i64 0, .int .i64 0, .int .i64 0, .int .i64 0, .slice none 0 0]) (t := 38) ?hr ?_; (case hr => first | (go_simp; done) | (go_simp; rfl)); intro g6 w6 H1; clear H; have H := H1; clear H1)
      | ((with_reducible refine gate_store (t := 38) (p := 6) rfl ?_); refine fr_put H rfl rfl rfl rfl rfl (by repeat (first | exact At.head | apply At.tail)) (by rfl) (by kernel_rfl) (by simp [Value.oneCell']) ?_; intro w6_ H1; clear H; have H := H1; clear H1)
      | ((with_reducible refine gate_dst (N := 26) rfl ?_); refine fr_get H rfl rfl rfl (by repeat (first | exact At.head | apply At.tail)) Try.underlying36 rfl (by simp only [List.getElem?_toArray, List.getElem?_cons_succ, List.getElem?_cons_zero]; rfl) ?_)
      | ((with_reducible refine gate_dst (N := 30) rfl ?_); (try (refine gate_guard (by rfl) ?_; dsimp only)); refine fr_load H rfl rfl rfl (by repeat (first | exact At.head | apply At.tail)) Try.underlying23 rfl (by kernel_rfl) ?_)
      | ((with_reducible refine gate_dst (N := 31) rfl ?_); (try (refine gate_guard (by rfl) ?_; dsimp only)); refine fr_load H rfl rfl rfl (by repeat (first | exact At.head | apply At.tail)) Try.underlying38 rfl (by kernel_rfl) ?_)
      | ((with_reducible refine gate_dst (N := 33) rfl ?_); (try (refine gate_guard (by rfl) ?_; dsimp only)); refine fr_load H rfl rfl rfl (by repeat (first | exact At.head | apply At.tail)) Try.underlying23 rfl (by kernel_rfl) ?_)
      | ((with_reducible refine gate_dst (N := 34) rfl ?_); (try (refine gate_guard (by rfl) ?_; dsimp only)); refine fr_load H rfl rfl rfl (by repeat (first | exact At.head | apply At.tail)) Try.underlying38 rfl (by kernel_rfl) ?_)
      | ((with_reducible refine gate_dst (N := 39) rfl ?_); refine fr_get H rfl rfl rfl (by repeat (first | exact At.head | apply At.tail)) Try.underlying36 rfl (by simp only [List.getElem?_toArray, List.getElem?_cons_succ, List.getElem?_cons_zero]; rfl) ?_)
      | ((with_reducible refine gate_dst (N := 44) rfl ?_); refine fr_load H rfl rfl rfl (by repeat (first | exact At.head | apply At.tail)) Try.underlying23 rfl (by kernel_rfl) ?_)
      | ((with_reducible refine gate_dst (N := 7) rfl ?_); refine fr_new H (N := 7) rfl rfl (cs := #[.int .i64 0, .int .i64 0, .int .i64 0, .int .i64 0, .int .i64 0, .int .i64 0, .bool false, .bool false, .int .i64 0, .int .i64 0, .int .i64 0, .int .i64 0, .int .i64 0, .slice none 0 0]) (t := 38) ?hr ?_; (case hr => first | (go_simp; done) | (go_simp; rfl)); intro g7 w7 H1; clear H; have H := H1; clear H1)
      | ((with_reducible refine gate_store (t := 38) (p := 7) rfl ?_); refine fr_put H rfl rfl rfl rfl rfl (by repeat (first | exact At.head | apply At.tail)) (by rfl) (by kernel_rfl) (by simp [Value.oneCell']) ?_; intro w7_ H1; clear H; have H := H1; clear H1)
      | ((with_reducible refine gate_dst (N := 49) rfl ?_); refine fr_load H rfl rfl rfl (by repeat (first | exact At.head | apply At.tail)) Try.underlying23 rfl (by kernel_rfl) ?_)
      | ((with_reducible refine gate_dst (N := 57) rfl ?_); (try (refine gate_guard (by rfl) ?_; dsimp only)); refine fr_load H rfl rfl rfl (by repeat (first | exact At.head | apply At.tail)) Try.underlying38 rfl (by kernel_rfl) ?_)
      | ((with_reducible refine gate_dst (N := 63) rfl ?_); (try (refine gate_guard (by rfl) ?_; dsimp only)); refine fr_load H rfl rfl rfl (by repeat (first | exact At.head | apply At.tail)) Try.underlying38 rfl (by kernel_rfl) ?_)
      | (go_at_call 12; (with_reducible refine (alive_calls _).mono ?_); rintro e w' ⟨rfl, hb⟩; have H1 := H.call hb; clear hb; clear H; have H := H1; clear H1)
      | (go_at_call 13; (with_reducible refine (odd_calls b0 b1 D b3 b4 b5 b6 b7 b8 b9 b10 b11 _ HO.out).mono ?_); rintro e w' ⟨rfl, hb⟩; have H1 := H.call hb; clear hb; clear H; have H := H1; clear H1))
    go_ret
    exact ⟨rfl, H.below⟩
  · have HO := Lib.hid (decide_eq_false hD)
    clear hD
    by_cases hl : l.length ≤ 256
    case neg =>
      have hg : decide ((l.length : Int) > 256) = true := decide_eq_true (by omega)
      have hg2 : decide ((256 : Int) < (l.length : Int)) = true := decide_eq_true (by omega)
      go_wp2_with (first
        | ((with_reducible refine gate_dst (N := 2) rfl ?_); refine fr_box H rfl rfl rfl ?_; intro g2 w2 H1; clear H; have H := H1; clear H1)
        | ((with_reducible refine gate_dst (N := 12) rfl ?_); refine fr_load H rfl rfl rfl (by repeat (first | exact At.head | apply At.tail)) Try.underlying23 rfl (by kernel_rfl) ?_)
        | ((with_reducible refine gate_dst (N := 6) rfl ?_); refine fr_new H (N := 6) rfl rfl (cs := #[.int .i64 0, .int .i64 0, .int .i64 0, .int .i64 0, .int .i64 0, .int .i64 0, .bool false, .bool false, .int .i64 0, .int .i64 0, .int .i64 0, .int .i64 0, .int .i64 0, .slice none 0 0]) (t := 38) ?hr ?_; (case hr => first | (go_simp; done) | (go_simp; rfl)); intro g6 w6 H1; clear H; have H := H1; clear H1)
        | ((with_reducible refine gate_store (t := 38) (p := 6) rfl ?_); refine fr_put H rfl rfl rfl rfl rfl (by repeat (first | exact At.head | apply At.tail)) (by rfl) (by kernel_rfl) (by simp [Value.oneCell']) ?_; intro w6_ H1; clear H; have H := H1; clear H1)
        | ((with_reducible refine gate_dst (N := 26) rfl ?_); refine fr_get H rfl rfl rfl (by repeat (first | exact At.head | apply At.tail)) Try.underlying36 rfl (by simp only [List.getElem?_toArray, List.getElem?_cons_succ, List.getElem?_cons_zero]; rfl) ?_)
        | ((with_reducible refine gate_dst (N := 30) rfl ?_); (try (refine gate_guard (by rfl) ?_; dsimp only)); refine fr_load H rfl rfl rfl (by repeat (first | exact At.head | apply At.tail)) Try.underlying23 rfl (by kernel_rfl) ?_)
        | ((with_reducible refine gate_dst (N := 31) rfl ?_); (try (refine gate_guard (by rfl) ?_; dsimp only)); refine fr_load H rfl rfl rfl (by repeat (first | exact At.head | apply At.tail)) Try.underlying38 rfl (by kernel_rfl) ?_)
        | ((with_reducible refine gate_dst (N := 33) rfl ?_); (try (refine gate_guard (by rfl) ?_; dsimp only)); refine fr_load H rfl rfl rfl (by repeat (first | exact At.head | apply At.tail)) Try.underlying23 rfl (by kernel_rfl) ?_)
        | ((with_reducible refine gate_dst (N := 34) rfl ?_); (try (refine gate_guard (by rfl) ?_; dsimp only)); refine fr_load H rfl rfl rfl (by repeat (first | exact At.head | apply At.tail)) Try.underlying38 rfl (by kernel_rfl) ?_)
        | ((with_reducible refine gate_dst (N := 39) rfl ?_); refine fr_get H rfl rfl rfl (by repeat (first | exact At.head | apply At.tail)) Try.underlying36 rfl (by simp only [List.getElem?_toArray, List.getElem?_cons_succ, List.getElem?_cons_zero]; rfl) ?_)
        | ((with_reducible refine gate_dst (N := 44) rfl ?_); refine fr_load H rfl rfl rfl (by repeat (first | exact At.head | apply At.tail)) Try.underlying23 rfl (by kernel_rfl) ?_)
        | ((with_reducible refine gate_dst (N := 7) rfl ?_); refine fr_new H (N := 7) rfl rfl (cs := #[.int .i64 0, .int .i64 0, .int .i64 0, .int .i64 0, .int .i64 0, .int .i64 0, .bool false, .bool false, .int .i64 0, .int .i64 0, .int .i64 0, .int .i64 0, .int .i64 0, .slice none 0 0]) (t := 38) ?hr ?_; (case hr => first | (go_simp; done) | (go_simp; rfl)); intro g7 w7 H1; clear H; have H := H1; clear H1)
        | ((with_reducible refine gate_store (t := 38) (p := 7) rfl ?_); refine fr_put H rfl rfl rfl rfl rfl (by repeat (first | exact At.head | apply At.tail)) (by rfl) (by kernel_rfl) (by simp [Value.oneCell']) ?_; intro w7_ H1; clear H; have H := H1; clear H1)
        | ((with_reducible refine gate_dst (N := 49) rfl ?_); refine fr_load H rfl rfl rfl (by repeat (first | exact At.head | apply At.tail)) Try.underlying23 rfl (by kernel_rfl) ?_)
        | ((with_reducible refine gate_dst (N := 57) rfl ?_); (try (refine gate_guard (by rfl) ?_; dsimp only)); refine fr_load H rfl rfl rfl (by repeat (first | exact At.head | apply At.tail)) Try.underlying38 rfl (by kernel_rfl) ?_)
        | ((with_reducible refine gate_dst (N := 63) rfl ?_); (try (refine gate_guard (by rfl) ?_; dsimp only)); refine fr_load H rfl rfl rfl (by repeat (first | exact At.head | apply At.tail)) Try.underlying38 rfl (by kernel_rfl) ?_)
        | (go_at_call 12; (with_reducible refine (alive_calls _).mono ?_); rintro e w' ⟨rfl, hb⟩; have H1 := H.call hb; clear hb; clear H; have H := H1; clear H1)
        | (go_at_call 13; (with_reducible refine (odd_calls b0 b1 D b3 b4 b5 b6 b7 b8 b9 b10 b11 _ HO.out).mono ?_); rintro e w' ⟨rfl, hb⟩; have H1 := H.call hb; clear hb; clear H; have H := H1; clear H1))
      go_ret
      exact ⟨rfl, H.below⟩
    case pos =>
      have hg : decide ((l.length : Int) > 256) = false := decide_eq_false (by omega)
      have hg2 : decide ((256 : Int) < (l.length : Int)) = false := decide_eq_false (by omega)
      go_wp2_with (first
        | ((with_reducible refine gate_dst (N := 2) rfl ?_); refine fr_box H rfl rfl rfl ?_; intro g2 w2 H1; clear H; have H := H1; clear H1)
        | ((with_reducible refine gate_dst (N := 12) rfl ?_); refine fr_load H rfl rfl rfl (by repeat (first | exact At.head | apply At.tail)) Try.underlying23 rfl (by kernel_rfl) ?_)
        | ((with_reducible refine gate_dst (N := 6) rfl ?_); refine fr_new H (N := 6) rfl rfl (cs := #[.int .i64 0, .int .i64 0, .int .i64 0, .int .i64 0, .int .i64 0, .int .i64 0, .bool false, .bool false, .int .i64 0, .int .i64 0, .int .i64 0, .int .i64 0, .int .i64 0, .slice none 0 0]) (t := 38) ?hr ?_; (case hr => first | (go_simp; done) | (go_simp; rfl)); intro g6 w6 H1; clear H; have H := H1; clear H1)
        | ((with_reducible refine gate_store (t := 38) (p := 6) rfl ?_); refine fr_put H rfl rfl rfl rfl rfl (by repeat (first | exact At.head | apply At.tail)) (by rfl) (by kernel_rfl) (by simp [Value.oneCell']) ?_; intro w6_ H1; clear H; have H := H1; clear H1)
        | ((with_reducible refine gate_dst (N := 26) rfl ?_); refine fr_get H rfl rfl rfl (by repeat (first | exact At.head | apply At.tail)) Try.underlying36 rfl (by simp only [List.getElem?_toArray, List.getElem?_cons_succ, List.getElem?_cons_zero]; rfl) ?_)
        | ((with_reducible refine gate_dst (N := 30) rfl ?_); (try (refine gate_guard (by rfl) ?_; dsimp only)); refine fr_load H rfl rfl rfl (by repeat (first | exact At.head | apply At.tail)) Try.underlying23 rfl (by kernel_rfl) ?_)
        | ((with_reducible refine gate_dst (N := 31) rfl ?_); (try (refine gate_guard (by rfl) ?_; dsimp only)); refine fr_load H rfl rfl rfl (by repeat (first | exact At.head | apply At.tail)) Try.underlying38 rfl (by kernel_rfl) ?_)
        | ((with_reducible refine gate_dst (N := 33) rfl ?_); (try (refine gate_guard (by rfl) ?_; dsimp only)); refine fr_load H rfl rfl rfl (by repeat (first | exact At.head | apply At.tail)) Try.underlying23 rfl (by kernel_rfl) ?_)
        | ((with_reducible refine gate_dst (N := 34) rfl ?_); (try (refine gate_guard (by rfl) ?_; dsimp only)); refine fr_load H rfl rfl rfl (by repeat (first | exact At.head | apply At.tail)) Try.underlying38 rfl (by kernel_rfl) ?_)
        | ((with_reducible refine gate_dst (N := 39) rfl ?_); refine fr_get H rfl rfl rfl (by repeat (first | exact At.head | apply At.tail)) Try.underlying36 rfl (by simp only [List.getElem?_toArray, List.getElem?_cons_succ, List.getElem?_cons_zero]; rfl) ?_)
        | ((with_reducible refine gate_dst (N := 44) rfl ?_); refine fr_load H rfl rfl rfl (by repeat (first | exact At.head | apply At.tail)) Try.underlying23 rfl (by kernel_rfl) ?_)
        | ((with_reducible refine gate_dst (N := 7) rfl ?_); refine fr_new H (N := 7) rfl rfl (cs := #[.int .i64 0, .int .i64 0, .int .i64 0, .int .i64 0, .int .i64 0, .int .i64 0, .bool false, .bool false, .int .i64 0, .int .i64 0, .int .i64 0, .int .i64 0, .int .i64 0, .slice none 0 0]) (t := 38) ?hr ?_; (case hr => first | (go_simp; done) | (go_simp; rfl)); intro g7 w7 H1; clear H; have H := H1; clear H1)
        | ((with_reducible refine gate_store (t := 38) (p := 7) rfl ?_); refine fr_put H rfl rfl rfl rfl rfl (by repeat (first | exact At.head | apply At.tail)) (by rfl) (by kernel_rfl) (by simp [Value.oneCell']) ?_; intro w7_ H1; clear H; have H := H1; clear H1)
        | ((with_reducible refine gate_dst (N := 49) rfl ?_); refine fr_load H rfl rfl rfl (by repeat (first | exact At.head | apply At.tail)) Try.underlying23 rfl (by kernel_rfl) ?_)
        | ((with_reducible refine gate_dst (N := 57) rfl ?_); (try (refine gate_guard (by rfl) ?_; dsimp only)); refine fr_load H rfl rfl rfl (by repeat (first | exact At.head | apply At.tail)) Try.underlying38 rfl (by kernel_rfl) ?_)
        | ((with_reducible refine gate_dst (N := 63) rfl ?_); (try (refine gate_guard (by rfl) ?_; dsimp only)); refine fr_load H rfl rfl rfl (by repeat (first | exact At.head | apply At.tail)) Try.underlying38 rfl (by kernel_rfl) ?_)
        | (go_at_call 12; (with_reducible refine (alive_calls _).mono ?_); rintro e w' ⟨rfl, hb⟩; have H1 := H.call hb; clear hb; clear H; have H := H1; clear H1)
        | (go_at_call 13; (with_reducible refine (odd_calls b0 b1 D b3 b4 b5 b6 b7 b8 b9 b10 b11 _ HO.out).mono ?_); rintro e w' ⟨rfl, hb⟩; have H1 := H.call hb; clear hb; clear H; have H := H1; clear H1))
      clear hg hg2
      go_loopw [21] (fun v21 wr => ∃ i : Int, v21 = .int .i64 i ∧ 0 ≤ i ∧ i ≤ (l.length : Int) ∧ Hid (∀ m, m ∈ l.take i.toNat → m.f10.length ≤ 256) ∧ Fr (fun _ => False) w wr [(g2, 23, #[.int .i64 b0, .int .i64 b1, .int .i64 D, .int .i64 b3, .int .i64 b4, .int .i64 b5, .int .i64 b6, .int .i64 b7, .int .i64 b8, .int .i64 b9, .int .i64 b10, .int .i64 b11])] (fun W => Kd.C k38 W A1 l.length l)) (fun v21 _ => l.length - (intOf v21).toNat)
      case atStart => exact ⟨0, rfl, by omega, by omega, Lib.hid (fun m hm => by simp at hm), H⟩
      case round =>
        obtain ⟨i, rfl, h0, h1, HT, H⟩ := hrel
        by_cases hlt : i < (l.length : Int)
        · obtain ⟨ad, A3, c3, rfl, hcells, hl3, hT3⟩ := tr_elem H.tr i h0 hlt
          have HC := Lib.hid hcells
          clear hcells
          have hT := take_at z38 l i h0 hlt
          change _ = _ ++ [rd_T38 l i] at hT
          obtain ⟨m, hm⟩ : ∃ m, rd_T38 l i = m := ⟨_, rfl⟩
          rw [hm] at HC hl3 hT3 hT
          clear hm
          have H1 := H.call2 (Below.refl _ _) hT3
          clear hT3 H
          have H := H1
          clear H1
          go_wp2_with (first
            | ((with_reducible refine gate_dst (N := 24) rfl ?_); refine load_cells rfl rfl (ad := ad.add (i.toNat * 14)) (cs := [.int .i64 m.f0, .int .i64 m.f1, .int .i64 m.f2.f0, .int .i64 m.f2.f1, .int .i64 m.f3, .int .i64 m.f4, .bool m.f5, .bool m.f6, .int .i64 m.f7.f0, .int .i64 m.f7.f1, .int .i64 m.f8, .int .i64 m.f9.f0, .int .i64 m.f9.f1, .slice A3 m.f10.length c3]) ?hx Try.underlying38 rfl (by kernel_rfl) HC.out ?_; (case hx => first | rfl | (go_simp; done) | (go_simp; rfl)))
            | ((with_reducible refine gate_dst (N := 2) rfl ?_); refine fr_box H rfl rfl rfl ?_; intro g2 w2 H1; clear H; have H := H1; clear H1)
            | ((with_reducible refine gate_dst (N := 12) rfl ?_); refine fr_load H rfl rfl rfl (by repeat (first | exact At.head | apply At.tail)) Try.underlying23 rfl (by kernel_rfl) ?_)
            | ((with_reducible refine gate_dst (N := 6) rfl ?_); refine fr_new H (N := 6) rfl rfl (cs := #[.int .i64 0, .int .i64 0, .int .i64 0, .int .i64 0, .int .i64 0, .int .i64 0, .bool false, .bool false, .int .i64 0, .int .i64 0, .int .i64 0, .int .i64 0, .int .i64 0, .slice none 0 0]) (t := 38) ?hr ?_; (case hr => first | (go_simp; done) | (go_simp; rfl)); intro g6 w6 H1; clear H; have H := H1; clear H1)
            | ((with_reducible refine gate_store (t := 38) (p := 6) rfl ?_); refine fr_put H rfl rfl rfl rfl rfl (by repeat (first | exact At.head | apply At.tail)) (by rfl) (by kernel_rfl) (by simp [Value.oneCell']) ?_; intro w6_ H1; clear H; have H := H1; clear H1)
            | ((with_reducible refine gate_dst (N := 26) rfl ?_); refine fr_get H rfl rfl rfl (by repeat (first | exact At.head | apply At.tail)) Try.underlying36 rfl (by simp only [List.getElem?_toArray, List.getElem?_cons_succ, List.getElem?_cons_zero]; rfl) ?_)
            | ((with_reducible refine gate_dst (N := 30) rfl ?_); (try (refine gate_guard (by rfl) ?_; dsimp only)); refine fr_load H rfl rfl rfl (by repeat (first | exact At.head | apply At.tail)) Try.underlying23 rfl (by kernel_rfl) ?_)
            | ((with_reducible refine gate_dst (N := 31) rfl ?_); (try (refine gate_guard (by rfl) ?_; dsimp only)); refine fr_load H rfl rfl rfl (by repeat (first | exact At.head | apply At.tail)) Try.underlying38 rfl (by kernel_rfl) ?_)
            | ((with_reducible refine gate_dst (N := 33) rfl ?_); (try (refine gate_guard (by rfl) ?_; dsimp only)); refine fr_load H rfl rfl rfl (by repeat (first | exact At.head | apply At.tail)) Try.underlying23 rfl (by kernel_rfl) ?_)
            | ((with_reducible refine gate_dst (N := 34) rfl ?_); (try (refine gate_guard (by rfl) ?_; dsimp only)); refine fr_load H rfl rfl rfl (by repeat (first | exact At.head | apply At.tail)) Try.underlying38 rfl (by kernel_rfl) ?_)
            | ((with_reducible refine gate_dst (N := 39) rfl ?_); refine fr_get H rfl rfl rfl (by repeat (first | exact At.head | apply At.tail)) Try.underlying36 rfl (by simp only [List.getElem?_toArray, List.getElem?_cons_succ, List.getElem?_cons_zero]; rfl) ?_)
            | ((with_reducible refine gate_dst (N := 44) rfl ?_); refine fr_load H rfl rfl rfl (by repeat (first | exact At.head | apply At.tail)) Try.underlying23 rfl (by kernel_rfl) ?_)
            | ((with_reducible refine gate_dst (N := 7) rfl ?_); refine fr_new H (N := 7) rfl rfl (cs := #[.int .i64 0, .int .i64 0, .int .i64 0, .int .i64 0, .int .i64 0, .int .i64 0, .bool false, .bool false, .int .i64 0, .int .i64 0, .int .i64 0, .int .i64 0, .int .i64 0, .slice none 0 0]) (t := 38) ?hr ?_; (case hr => first | (go_simp; done) | (go_simp; rfl)); intro g7 w7 H1; clear H; have H := H1; clear H1)
            | ((with_reducible refine gate_store (t := 38) (p := 7) rfl ?_); refine fr_put H rfl rfl rfl rfl rfl (by repeat (first | exact At.head | apply At.tail)) (by rfl) (by kernel_rfl) (by simp [Value.oneCell']) ?_; intro w7_ H1; clear H; have H := H1; clear H1)
            | ((with_reducible refine gate_dst (N := 49) rfl ?_); refine fr_load H rfl rfl rfl (by repeat (first | exact At.head | apply At.tail)) Try.underlying23 rfl (by kernel_rfl) ?_)
            | ((with_reducible refine gate_dst (N := 57) rfl ?_); (try (refine gate_guard (by rfl) ?_; dsimp only)); refine fr_load H rfl rfl rfl (by repeat (first | exact At.head | apply At.tail)) Try.underlying38 rfl (by kernel_rfl) ?_)
            | ((with_reducible refine gate_dst (N := 63) rfl ?_); (try (refine gate_guard (by rfl) ?_; dsimp only)); refine fr_load H rfl rfl rfl (by repeat (first | exact At.head | apply At.tail)) Try.underlying38 rfl (by kernel_rfl) ?_)
            | fail)
          by_cases hm : m.f10.length ≤ 256
          · have q1 : decide ((m.f10.length : Int) > 256) = false := decide_eq_false (by omega)
            have q2 : decide ((256 : Int) < (m.f10.length : Int)) = false := decide_eq_false (by omega)
            have HT2 : Hid (∀ x, x ∈ l.take (i + 1).toNat → x.f10.length ≤ 256) := Lib.hid (fun x hx => by
              rw [hT] at hx
              rcases List.mem_append.1 hx with hx | hx
              · exact HT.out x hx
              · rw [List.mem_singleton.1 hx]; exact hm)
            clear hT
            cases hu : us D m with
            | false =>
              refine fr_region H (by kernel_rfl) (by kernel_rfl) ?_
              clear H
              repeat (first
              | go_big_quiet_skip
              | ((with_reducible refine qg_move rfl ?_); go_big_quiet_want; go_big_quiet_op; go_big_quiet_on)
              | ((with_reducible refine qg_assign rfl ?_); go_big_quiet_want; go_big_quiet_op; go_big_quiet_on)
              | ((with_reducible refine qg_load rfl ?_); refine q_get (by rfl) rfl rfl (by (repeat (first | exact At.head | apply At.tail)); done) Try.underlying36 rfl (by rfl) ?_; simp only [Act.put, List.setIfInBounds_toArray, List.set_cons_zero, List.set_cons_succ])
              | ((with_reducible refine qg_load rfl ?_); first | (refine q_load (by rfl) rfl rfl (by (repeat (first | exact At.head | apply At.tail)); done) (by first | exact Try.underlying23 | exact Try.underlying38) (by rfl) (by kernel_rfl) ?_; simp only [Act.put, List.setIfInBounds_toArray, List.set_cons_zero, List.set_cons_succ]) | (refine q_get (by rfl) rfl rfl (by (repeat (first | exact At.head | apply At.tail)); done) (by first | exact Try.underlying23 | exact Try.underlying38) (by rfl) (by simp only [List.getElem?_toArray, List.getElem?_cons_succ, List.getElem?_cons_zero]; rfl) ?_; simp only [Act.put, List.setIfInBounds_toArray, List.set_cons_zero, List.set_cons_succ]) | (refine q_sub2 (by rfl) rfl rfl (by (repeat (first | exact At.head | apply At.tail)); done) (by first | exact Try.underlying23 | exact Try.underlying38) (by rfl) (by kernel_rfl) (by simp only [List.getElem?_toArray, List.getElem?_cons_succ, List.getElem?_cons_zero]; rfl) (by simp only [List.getElem?_toArray, List.getElem?_cons_succ, List.getElem?_cons_zero]; rfl) ?_; simp only [Act.put, List.setIfInBounds_toArray, List.set_cons_zero, List.set_cons_succ]))
              | ((with_reducible refine qg_call (f := 17) rfl ?_); refine q_call (by rfl) (f := 17) (args := #[.agg #[.int .i64 b0, .int .i64 b1, .int .i64 D, .int .i64 b3, .int .i64 b4, .int .i64 b5, .int .i64 b6, .int .i64 b7, .int .i64 b8, .int .i64 b9, .int .i64 b10, .int .i64 b11], .agg #[.int .i64 m.f0, .int .i64 m.f1, .int .i64 m.f2.f0, .int .i64 m.f2.f1, .int .i64 m.f3, .int .i64 m.f4, .bool m.f5, .bool m.f6, .int .i64 m.f7.f0, .int .i64 m.f7.f1, .int .i64 m.f8, .int .i64 m.f9.f0, .int .i64 m.f9.f1, .slice A3 m.f10.length c3]]) (fun W => by first | (go_simp; done) | (go_simp; rfl)) (fun W H => us_calls b0 b1 D b3 b4 b5 b6 b7 b8 b9 b10 b11 m A3 c3 W (H.now.2) hl3 false hu) ?_; simp only [Act.put, List.setIfInBounds_toArray, List.set_cons_zero, List.set_cons_succ])
              | ((with_reducible refine qg_call (f := 18) rfl ?_); refine q_call (by rfl) (f := 18) (args := #[.agg #[.int .i64 b0, .int .i64 b1, .int .i64 D, .int .i64 b3, .int .i64 b4, .int .i64 b5, .int .i64 b6, .int .i64 b7, .int .i64 b8, .int .i64 b9, .int .i64 b10, .int .i64 b11], .agg #[.int .i64 m.f0, .int .i64 m.f1, .int .i64 m.f2.f0, .int .i64 m.f2.f1, .int .i64 m.f3, .int .i64 m.f4, .bool m.f5, .bool m.f6, .int .i64 m.f7.f0, .int .i64 m.f7.f1, .int .i64 m.f8, .int .i64 m.f9.f0, .int .i64 m.f9.f1, .slice A3 m.f10.length c3]]) (fun W => by first | (go_simp; done) | (go_simp; rfl)) (fun W H => refUs_calls b0 b1 D b3 b4 b5 b6 b7 b8 b9 b10 b11 m A3 c3 W (H.now.2) hl3 false hu) ?_; simp only [Act.put, List.setIfInBounds_toArray, List.set_cons_zero, List.set_cons_succ])
              | (refine q_pureK (by rfl) (fun W K hK => by go_simp; exact hK.out) ?_; simp only [Act.put, List.setIfInBounds_toArray, List.set_cons_zero, List.set_cons_succ]))
              refine q_end ?_
              intro W1 H
              go_wp2_with (first
                | ((with_reducible refine gate_dst (N := 2) rfl ?_); refine fr_box H rfl rfl rfl ?_; intro g2 w2 H1; clear H; have H := H1; clear H1)
                | ((with_reducible refine gate_dst (N := 12) rfl ?_); refine fr_load H rfl rfl rfl (by repeat (first | exact At.head | apply At.tail)) Try.underlying23 rfl (by kernel_rfl) ?_)
                | ((with_reducible refine gate_dst (N := 6) rfl ?_); refine fr_new H (N := 6) rfl rfl (cs := #[.int .i64 0, .int .i64 0, .int .i64 0, .int .i64 0, .int .i64 0, .int .i64 0, .bool false, .bool false, .int .i64 0, .int .i64 0, .int .i64 0, .int .i64 0, .int .i64 0, .slice none 0 0]) (t := 38) ?hr ?_; (case hr => first | (go_simp; done) | (go_simp; rfl)); intro g6 w6 H1; clear H; have H := H1; clear H1)
                | ((with_reducible refine gate_store (t := 38) (p := 6) rfl ?_); refine fr_put H rfl rfl rfl rfl rfl (by repeat (first | exact At.head | apply At.tail)) (by rfl) (by kernel_rfl) (by simp [Value.oneCell']) ?_; intro w6_ H1; clear H; have H := H1; clear H1)
                | ((with_reducible refine gate_dst (N := 26) rfl ?_); refine fr_get H rfl rfl rfl (by repeat (first | exact At.head | apply At.tail)) Try.underlying36 rfl (by simp only [List.getElem?_toArray, List.getElem?_cons_succ, List.getElem?_cons_zero]; rfl) ?_)
                | ((with_reducible refine gate_dst (N := 30) rfl ?_); (try (refine gate_guard (by rfl) ?_; dsimp only)); refine fr_load H rfl rfl rfl (by repeat (first | exact At.head | apply At.tail)) Try.underlying23 rfl (by kernel_rfl) ?_)
                | ((with_reducible refine gate_dst (N := 31) rfl ?_); (try (refine gate_guard (by rfl) ?_; dsimp only)); refine fr_load H rfl rfl rfl (by repeat (first | exact At.head | apply At.tail)) Try.underlying38 rfl (by kernel_rfl) ?_)
                | ((with_reducible refine gate_dst (N := 33) rfl ?_); (try (refine gate_guard (by rfl) ?_; dsimp only)); refine fr_load H rfl rfl rfl (by repeat (first | exact At.head | apply At.tail)) Try.underlying23 rfl (by kernel_rfl) ?_)
                | ((with_reducible refine gate_dst (N := 34) rfl ?_); (try (refine gate_guard (by rfl) ?_; dsimp only)); refine fr_load H rfl rfl rfl (by repeat (first | exact At.head | apply At.tail)) Try.underlying38 rfl (by kernel_rfl) ?_)
                | ((with_reducible refine gate_dst (N := 39) rfl ?_); refine fr_get H rfl rfl rfl (by repeat (first | exact At.head | apply At.tail)) Try.underlying36 rfl (by simp only [List.getElem?_toArray, List.getElem?_cons_succ, List.getElem?_cons_zero]; rfl) ?_)
                | ((with_reducible refine gate_dst (N := 44) rfl ?_); refine fr_load H rfl rfl rfl (by repeat (first | exact At.head | apply At.tail)) Try.underlying23 rfl (by kernel_rfl) ?_)
                | ((with_reducible refine gate_dst (N := 7) rfl ?_); refine fr_new H (N := 7) rfl rfl (cs := #[.int .i64 0, .int .i64 0, .int .i64 0, .int .i64 0, .int .i64 0, .int .i64 0, .bool false, .bool false, .int .i64 0, .int .i64 0, .int .i64 0, .int .i64 0, .int .i64 0, .slice none 0 0]) (t := 38) ?hr ?_; (case hr => first | (go_simp; done) | (go_simp; rfl)); intro g7 w7 H1; clear H; have H := H1; clear H1)
                | ((with_reducible refine gate_store (t := 38) (p := 7) rfl ?_); refine fr_put H rfl rfl rfl rfl rfl (by repeat (first | exact At.head | apply At.tail)) (by rfl) (by kernel_rfl) (by simp [Value.oneCell']) ?_; intro w7_ H1; clear H; have H := H1; clear H1)
                | ((with_reducible refine gate_dst (N := 49) rfl ?_); refine fr_load H rfl rfl rfl (by repeat (first | exact At.head | apply At.tail)) Try.underlying23 rfl (by kernel_rfl) ?_)
                | ((with_reducible refine gate_dst (N := 57) rfl ?_); (try (refine gate_guard (by rfl) ?_; dsimp only)); refine fr_load H rfl rfl rfl (by repeat (first | exact At.head | apply At.tail)) Try.underlying38 rfl (by kernel_rfl) ?_)
                | ((with_reducible refine gate_dst (N := 63) rfl ?_); (try (refine gate_guard (by rfl) ?_; dsimp only)); refine fr_load H rfl rfl rfl (by repeat (first | exact At.head | apply At.tail)) Try.underlying38 rfl (by kernel_rfl) ?_)
                | fail)
              go_roundw
              case rel => exact ⟨i + 1, rfl, by omega, by omega, HT2, (H.drop).imp (fun W' h => h.1)⟩
              case measure => simp [intOf]; omega
            | true =>
              refine fr_region H (by kernel_rfl) (by kernel_rfl) ?_
              clear H
              repeat (first
              | go_big_quiet_skip
              | ((with_reducible refine qg_move rfl ?_); go_big_quiet_want; go_big_quiet_op; go_big_quiet_on)
              | ((with_reducible refine qg_assign rfl ?_); go_big_quiet_want; go_big_quiet_op; go_big_quiet_on)
              | ((with_reducible refine qg_load rfl ?_); refine q_get (by rfl) rfl rfl (by (repeat (first | exact At.head | apply At.tail)); done) Try.underlying36 rfl (by rfl) ?_; simp only [Act.put, List.setIfInBounds_toArray, List.set_cons_zero, List.set_cons_succ])
              | ((with_reducible refine qg_load rfl ?_); first | (refine q_load (by rfl) rfl rfl (by (repeat (first | exact At.head | apply At.tail)); done) (by first | exact Try.underlying23 | exact Try.underlying38) (by rfl) (by kernel_rfl) ?_; simp only [Act.put, List.setIfInBounds_toArray, List.set_cons_zero, List.set_cons_succ]) | (refine q_get (by rfl) rfl rfl (by (repeat (first | exact At.head | apply At.tail)); done) (by first | exact Try.underlying23 | exact Try.underlying38) (by rfl) (by simp only [List.getElem?_toArray, List.getElem?_cons_succ, List.getElem?_cons_zero]; rfl) ?_; simp only [Act.put, List.setIfInBounds_toArray, List.set_cons_zero, List.set_cons_succ]) | (refine q_sub2 (by rfl) rfl rfl (by (repeat (first | exact At.head | apply At.tail)); done) (by first | exact Try.underlying23 | exact Try.underlying38) (by rfl) (by kernel_rfl) (by simp only [List.getElem?_toArray, List.getElem?_cons_succ, List.getElem?_cons_zero]; rfl) (by simp only [List.getElem?_toArray, List.getElem?_cons_succ, List.getElem?_cons_zero]; rfl) ?_; simp only [Act.put, List.setIfInBounds_toArray, List.set_cons_zero, List.set_cons_succ]))
              | ((with_reducible refine qg_call (f := 17) rfl ?_); refine q_call (by rfl) (f := 17) (args := #[.agg #[.int .i64 b0, .int .i64 b1, .int .i64 D, .int .i64 b3, .int .i64 b4, .int .i64 b5, .int .i64 b6, .int .i64 b7, .int .i64 b8, .int .i64 b9, .int .i64 b10, .int .i64 b11], .agg #[.int .i64 m.f0, .int .i64 m.f1, .int .i64 m.f2.f0, .int .i64 m.f2.f1, .int .i64 m.f3, .int .i64 m.f4, .bool m.f5, .bool m.f6, .int .i64 m.f7.f0, .int .i64 m.f7.f1, .int .i64 m.f8, .int .i64 m.f9.f0, .int .i64 m.f9.f1, .slice A3 m.f10.length c3]]) (fun W => by first | (go_simp; done) | (go_simp; rfl)) (fun W H => us_calls b0 b1 D b3 b4 b5 b6 b7 b8 b9 b10 b11 m A3 c3 W (H.now.2) hl3 true hu) ?_; simp only [Act.put, List.setIfInBounds_toArray, List.set_cons_zero, List.set_cons_succ])
              | ((with_reducible refine qg_call (f := 18) rfl ?_); refine q_call (by rfl) (f := 18) (args := #[.agg #[.int .i64 b0, .int .i64 b1, .int .i64 D, .int .i64 b3, .int .i64 b4, .int .i64 b5, .int .i64 b6, .int .i64 b7, .int .i64 b8, .int .i64 b9, .int .i64 b10, .int .i64 b11], .agg #[.int .i64 m.f0, .int .i64 m.f1, .int .i64 m.f2.f0, .int .i64 m.f2.f1, .int .i64 m.f3, .int .i64 m.f4, .bool m.f5, .bool m.f6, .int .i64 m.f7.f0, .int .i64 m.f7.f1, .int .i64 m.f8, .int .i64 m.f9.f0, .int .i64 m.f9.f1, .slice A3 m.f10.length c3]]) (fun W => by first | (go_simp; done) | (go_simp; rfl)) (fun W H => refUs_calls b0 b1 D b3 b4 b5 b6 b7 b8 b9 b10 b11 m A3 c3 W (H.now.2) hl3 true hu) ?_; simp only [Act.put, List.setIfInBounds_toArray, List.set_cons_zero, List.set_cons_succ])
              | (refine q_pureK (by rfl) (fun W K hK => by go_simp; exact hK.out) ?_; simp only [Act.put, List.setIfInBounds_toArray, List.set_cons_zero, List.set_cons_succ]))
              refine q_end ?_
              intro W1 H
              go_wp2_with (first
                | ((with_reducible refine gate_dst (N := 2) rfl ?_); refine fr_box H rfl rfl rfl ?_; intro g2 w2 H1; clear H; have H := H1; clear H1)
                | ((with_reducible refine gate_dst (N := 12) rfl ?_); refine fr_load H rfl rfl rfl (by repeat (first | exact At.head | apply At.tail)) Try.underlying23 rfl (by kernel_rfl) ?_)
                | ((with_reducible refine gate_dst (N := 6) rfl ?_); refine fr_new H (N := 6) rfl rfl (cs := #[.int .i64 0, .int .i64 0, .int .i64 0, .int .i64 0, .int .i64 0, .int .i64 0, .bool false, .bool false, .int .i64 0, .int .i64 0, .int .i64 0, .int .i64 0, .int .i64 0, .slice none 0 0]) (t := 38) ?hr ?_; (case hr => first | (go_simp; done) | (go_simp; rfl)); intro g6 w6 H1; clear H; have H := H1; clear H1)
                | ((with_reducible refine gate_store (t := 38) (p := 6) rfl ?_); refine fr_put H rfl rfl rfl rfl rfl (by repeat (first | exact At.head | apply At.tail)) (by rfl) (by kernel_rfl) (by simp [Value.oneCell']) ?_; intro w6_ H1; clear H; have H := H1; clear H1)
                | ((with_reducible refine gate_dst (N := 26) rfl ?_); refine fr_get H rfl rfl rfl (by repeat (first | exact At.head | apply At.tail)) Try.underlying36 rfl (by simp only [List.getElem?_toArray, List.getElem?_cons_succ, List.getElem?_cons_zero]; rfl) ?_)
                | ((with_reducible refine gate_dst (N := 30) rfl ?_); (try (refine gate_guard (by rfl) ?_; dsimp only)); refine fr_load H rfl rfl rfl (by repeat (first | exact At.head | apply At.tail)) Try.underlying23 rfl (by kernel_rfl) ?_)
                | ((with_reducible refine gate_dst (N := 31) rfl ?_); (try (refine gate_guard (by rfl) ?_; dsimp only)); refine fr_load H rfl rfl rfl (by repeat (first | exact At.head | apply At.tail)) Try.underlying38 rfl (by kernel_rfl) ?_)
                | ((with_reducible refine gate_dst (N := 33) rfl ?_); (try (refine gate_guard (by rfl) ?_; dsimp only)); refine fr_load H rfl rfl rfl (by repeat (first | exact At.head | apply At.tail)) Try.underlying23 rfl (by kernel_rfl) ?_)
                | ((with_reducible refine gate_dst (N := 34) rfl ?_); (try (refine gate_guard (by rfl) ?_; dsimp only)); refine fr_load H rfl rfl rfl (by repeat (first | exact At.head | apply At.tail)) Try.underlying38 rfl (by kernel_rfl) ?_)
                | ((with_reducible refine gate_dst (N := 39) rfl ?_); refine fr_get H rfl rfl rfl (by repeat (first | exact At.head | apply At.tail)) Try.underlying36 rfl (by simp only [List.getElem?_toArray, List.getElem?_cons_succ, List.getElem?_cons_zero]; rfl) ?_)
                | ((with_reducible refine gate_dst (N := 44) rfl ?_); refine fr_load H rfl rfl rfl (by repeat (first | exact At.head | apply At.tail)) Try.underlying23 rfl (by kernel_rfl) ?_)
                | ((with_reducible refine gate_dst (N := 7) rfl ?_); refine fr_new H (N := 7) rfl rfl (cs := #[.int .i64 0, .int .i64 0, .int .i64 0, .int .i64 0, .int .i64 0, .int .i64 0, .bool false, .bool false, .int .i64 0, .int .i64 0, .int .i64 0, .int .i64 0, .int .i64 0, .slice none 0 0]) (t := 38) ?hr ?_; (case hr => first | (go_simp; done) | (go_simp; rfl)); intro g7 w7 H1; clear H; have H := H1; clear H1)
                | ((with_reducible refine gate_store (t := 38) (p := 7) rfl ?_); refine fr_put H rfl rfl rfl rfl rfl (by repeat (first | exact At.head | apply At.tail)) (by rfl) (by kernel_rfl) (by simp [Value.oneCell']) ?_; intro w7_ H1; clear H; have H := H1; clear H1)
                | ((with_reducible refine gate_dst (N := 49) rfl ?_); refine fr_load H rfl rfl rfl (by repeat (first | exact At.head | apply At.tail)) Try.underlying23 rfl (by kernel_rfl) ?_)
                | ((with_reducible refine gate_dst (N := 57) rfl ?_); (try (refine gate_guard (by rfl) ?_; dsimp only)); refine fr_load H rfl rfl rfl (by repeat (first | exact At.head | apply At.tail)) Try.underlying38 rfl (by kernel_rfl) ?_)
                | ((with_reducible refine gate_dst (N := 63) rfl ?_); (try (refine gate_guard (by rfl) ?_; dsimp only)); refine fr_load H rfl rfl rfl (by repeat (first | exact At.head | apply At.tail)) Try.underlying38 rfl (by kernel_rfl) ?_)
                | fail)
              go_roundw
              case rel => exact ⟨i + 1, rfl, by omega, by omega, HT2, (H.drop).imp (fun W' h => h.1)⟩
              case measure => simp [intOf]; omega
          · have q1 : decide ((m.f10.length : Int) > 256) = true := decide_eq_true (by omega)
            have q2 : decide ((256 : Int) < (m.f10.length : Int)) = true := decide_eq_true (by omega)
            clear hT
            refine fr_region H (by kernel_rfl) (by kernel_rfl) ?_
            clear H
            repeat (first
            | go_big_quiet_skip
            | ((with_reducible refine qg_move rfl ?_); go_big_quiet_want; go_big_quiet_op; go_big_quiet_on)
            | ((with_reducible refine qg_assign rfl ?_); go_big_quiet_want; go_big_quiet_op; go_big_quiet_on)
            | ((with_reducible refine qg_load rfl ?_); refine q_get (by rfl) rfl rfl (by (repeat (first | exact At.head | apply At.tail)); done) Try.underlying36 rfl (by rfl) ?_; simp only [Act.put, List.setIfInBounds_toArray, List.set_cons_zero, List.set_cons_succ])
            | ((with_reducible refine qg_load rfl ?_); first | (refine q_load (by rfl) rfl rfl (by (repeat (first | exact At.head | apply At.tail)); done) (by first | exact Try.underlying23 | exact Try.underlying38) (by rfl) (by kernel_rfl) ?_; simp only [Act.put, List.setIfInBounds_toArray, List.set_cons_zero, List.set_cons_succ]) | (refine q_get (by rfl) rfl rfl (by (repeat (first | exact At.head | apply At.tail)); done) (by first | exact Try.underlying23 | exact Try.underlying38) (by rfl) (by simp only [List.getElem?_toArray, List.getElem?_cons_succ, List.getElem?_cons_zero]; rfl) ?_; simp only [Act.put, List.setIfInBounds_toArray, List.set_cons_zero, List.set_cons_succ]) | (refine q_sub2 (by rfl) rfl rfl (by (repeat (first | exact At.head | apply At.tail)); done) (by first | exact Try.underlying23 | exact Try.underlying38) (by rfl) (by kernel_rfl) (by simp only [List.getElem?_toArray, List.getElem?_cons_succ, List.getElem?_cons_zero]; rfl) (by simp only [List.getElem?_toArray, List.getElem?_cons_succ, List.getElem?_cons_zero]; rfl) ?_; simp only [Act.put, List.setIfInBounds_toArray, List.set_cons_zero, List.set_cons_succ]))
            | (refine q_pureK (by rfl) (fun W K hK => by go_simp; exact hK.out) ?_; simp only [Act.put, List.setIfInBounds_toArray, List.set_cons_zero, List.set_cons_succ]))
            refine q_end ?_
            intro W1 H
            go_wp2_with (first
              | ((with_reducible refine gate_dst (N := 2) rfl ?_); refine fr_box H rfl rfl rfl ?_; intro g2 w2 H1; clear H; have H := H1; clear H1)
              | ((with_reducible refine gate_dst (N := 12) rfl ?_); refine fr_load H rfl rfl rfl (by repeat (first | exact At.head | apply At.tail)) Try.underlying23 rfl (by kernel_rfl) ?_)
              | ((with_reducible refine gate_dst (N := 6) rfl ?_); refine fr_new H (N := 6) rfl rfl (cs := #[.int .i64 0, .int .i64 0, .int .i64 0, .int .i64 0, .int .i64 0, .int .i64 0, .bool false, .bool false, .int .i64 0, .int .i64 0, .int .i64 0, .int .i64 0, .int .i64 0, .slice none 0 0]) (t := 38) ?hr ?_; (case hr => first | (go_simp; done) | (go_simp; rfl)); intro g6 w6 H1; clear H; have H := H1; clear H1)
              | ((with_reducible refine gate_store (t := 38) (p := 6) rfl ?_); refine fr_put H rfl rfl rfl rfl rfl (by repeat (first | exact At.head | apply At.tail)) (by rfl) (by kernel_rfl) (by simp [Value.oneCell']) ?_; intro w6_ H1; clear H; have H := H1; clear H1)
              | ((with_reducible refine gate_dst (N := 26) rfl ?_); refine fr_get H rfl rfl rfl (by repeat (first | exact At.head | apply At.tail)) Try.underlying36 rfl (by simp only [List.getElem?_toArray, List.getElem?_cons_succ, List.getElem?_cons_zero]; rfl) ?_)
              | ((with_reducible refine gate_dst (N := 30) rfl ?_); (try (refine gate_guard (by rfl) ?_; dsimp only)); refine fr_load H rfl rfl rfl (by repeat (first | exact At.head | apply At.tail)) Try.underlying23 rfl (by kernel_rfl) ?_)
              | ((with_reducible refine gate_dst (N := 31) rfl ?_); (try (refine gate_guard (by rfl) ?_; dsimp only)); refine fr_load H rfl rfl rfl (by repeat (first | exact At.head | apply At.tail)) Try.underlying38 rfl (by kernel_rfl) ?_)
              | ((with_reducible refine gate_dst (N := 33) rfl ?_); (try (refine gate_guard (by rfl) ?_; dsimp only)); refine fr_load H rfl rfl rfl (by repeat (first | exact At.head | apply At.tail)) Try.underlying23 rfl (by kernel_rfl) ?_)
              | ((with_reducible refine gate_dst (N := 34) rfl ?_); (try (refine gate_guard (by rfl) ?_; dsimp only)); refine fr_load H rfl rfl rfl (by repeat (first | exact At.head | apply At.tail)) Try.underlying38 rfl (by kernel_rfl) ?_)
              | ((with_reducible refine gate_dst (N := 39) rfl ?_); refine fr_get H rfl rfl rfl (by repeat (first | exact At.head | apply At.tail)) Try.underlying36 rfl (by simp only [List.getElem?_toArray, List.getElem?_cons_succ, List.getElem?_cons_zero]; rfl) ?_)
              | ((with_reducible refine gate_dst (N := 44) rfl ?_); refine fr_load H rfl rfl rfl (by repeat (first | exact At.head | apply At.tail)) Try.underlying23 rfl (by kernel_rfl) ?_)
              | ((with_reducible refine gate_dst (N := 7) rfl ?_); refine fr_new H (N := 7) rfl rfl (cs := #[.int .i64 0, .int .i64 0, .int .i64 0, .int .i64 0, .int .i64 0, .int .i64 0, .bool false, .bool false, .int .i64 0, .int .i64 0, .int .i64 0, .int .i64 0, .int .i64 0, .slice none 0 0]) (t := 38) ?hr ?_; (case hr => first | (go_simp; done) | (go_simp; rfl)); intro g7 w7 H1; clear H; have H := H1; clear H1)
              | ((with_reducible refine gate_store (t := 38) (p := 7) rfl ?_); refine fr_put H rfl rfl rfl rfl rfl (by repeat (first | exact At.head | apply At.tail)) (by rfl) (by kernel_rfl) (by simp [Value.oneCell']) ?_; intro w7_ H1; clear H; have H := H1; clear H1)
              | ((with_reducible refine gate_dst (N := 49) rfl ?_); refine fr_load H rfl rfl rfl (by repeat (first | exact At.head | apply At.tail)) Try.underlying23 rfl (by kernel_rfl) ?_)
              | ((with_reducible refine gate_dst (N := 57) rfl ?_); (try (refine gate_guard (by rfl) ?_; dsimp only)); refine fr_load H rfl rfl rfl (by repeat (first | exact At.head | apply At.tail)) Try.underlying38 rfl (by kernel_rfl) ?_)
              | ((with_reducible refine gate_dst (N := 63) rfl ?_); (try (refine gate_guard (by rfl) ?_; dsimp only)); refine fr_load H rfl rfl rfl (by repeat (first | exact At.head | apply At.tail)) Try.underlying38 rfl (by kernel_rfl) ?_)
              | fail)
            go_ret
            exact ⟨rfl, H.below⟩
        · have HT2 : Hid (∀ m, m ∈ l → m.f10.length ≤ 256) := by
            have h := HT.out
            rw [List.take_of_length_le (by omega)] at h
            exact Lib.hid h
          clear HT
          obtain ⟨y, hy, hys⟩ := choose_facts b0 b1 D b3 b4 b5 b6 b7 b8 b9 b10 b11 l hl
          have HY := Lib.hid hy
          clear hy
          have HC0 := fun A A1' w1 hA (hr : Tr A w1 (fun W => Kd.C k38 W A1' l.length l)) => Choose_calls A b0 b1 D b3 b4 b5 b6 b7 b8 b9 b10 b11 A1' c1 l w1 hA hr
          obtain ⟨M, hM⟩ : ∃ M, ((pick (us D) ltm l).getD z38) = M := ⟨_, rfl⟩
          obtain ⟨bi, hbi⟩ : ∃ bi, (pick (us D) ltm l).isSome = bi := ⟨_, rfl⟩
          rw [hM, hbi] at hys
          simp only [hM, hbi] at HC0
          have HCC := Lib.hid HC0
          clear HC0 hM hbi
          rcases hys with ⟨rfl, rfl, hM⟩ | ⟨y0, y1, rfl, hM⟩
          · have HM := Lib.hid hM
            clear hM
            go_wp2_with (first
              | ((with_reducible refine gate_dst (N := 2) rfl ?_); refine fr_box H rfl rfl rfl ?_; intro g2 w2 H1; clear H; have H := H1; clear H1)
              | ((with_reducible refine gate_dst (N := 12) rfl ?_); refine fr_load H rfl rfl rfl (by repeat (first | exact At.head | apply At.tail)) Try.underlying23 rfl (by kernel_rfl) ?_)
              | ((with_reducible refine gate_dst (N := 6) rfl ?_); refine fr_new H (N := 6) rfl rfl (cs := #[.int .i64 0, .int .i64 0, .int .i64 0, .int .i64 0, .int .i64 0, .int .i64 0, .bool false, .bool false, .int .i64 0, .int .i64 0, .int .i64 0, .int .i64 0, .int .i64 0, .slice none 0 0]) (t := 38) ?hr ?_; (case hr => first | (go_simp; done) | (go_simp; rfl)); intro g6 w6 H1; clear H; have H := H1; clear H1)
              | ((with_reducible refine gate_store (t := 38) (p := 6) rfl ?_); refine fr_put H rfl rfl rfl rfl rfl (by repeat (first | exact At.head | apply At.tail)) (by rfl) (by kernel_rfl) (by simp [Value.oneCell']) ?_; intro w6_ H1; clear H; have H := H1; clear H1)
              | ((with_reducible refine gate_dst (N := 26) rfl ?_); refine fr_get H rfl rfl rfl (by repeat (first | exact At.head | apply At.tail)) Try.underlying36 rfl (by simp only [List.getElem?_toArray, List.getElem?_cons_succ, List.getElem?_cons_zero]; rfl) ?_)
              | ((with_reducible refine gate_dst (N := 30) rfl ?_); (try (refine gate_guard (by rfl) ?_; dsimp only)); refine fr_load H rfl rfl rfl (by repeat (first | exact At.head | apply At.tail)) Try.underlying23 rfl (by kernel_rfl) ?_)
              | ((with_reducible refine gate_dst (N := 31) rfl ?_); (try (refine gate_guard (by rfl) ?_; dsimp only)); refine fr_load H rfl rfl rfl (by repeat (first | exact At.head | apply At.tail)) Try.underlying38 rfl (by kernel_rfl) ?_)
              | ((with_reducible refine gate_dst (N := 33) rfl ?_); (try (refine gate_guard (by rfl) ?_; dsimp only)); refine fr_load H rfl rfl rfl (by repeat (first | exact At.head | apply At.tail)) Try.underlying23 rfl (by kernel_rfl) ?_)
              | ((with_reducible refine gate_dst (N := 34) rfl ?_); (try (refine gate_guard (by rfl) ?_; dsimp only)); refine fr_load H rfl rfl rfl (by repeat (first | exact At.head | apply At.tail)) Try.underlying38 rfl (by kernel_rfl) ?_)
              | ((with_reducible refine gate_dst (N := 39) rfl ?_); refine fr_get H rfl rfl rfl (by repeat (first | exact At.head | apply At.tail)) Try.underlying36 rfl (by simp only [List.getElem?_toArray, List.getElem?_cons_succ, List.getElem?_cons_zero]; rfl) ?_)
              | ((with_reducible refine gate_dst (N := 44) rfl ?_); refine fr_load H rfl rfl rfl (by repeat (first | exact At.head | apply At.tail)) Try.underlying23 rfl (by kernel_rfl) ?_)
              | ((with_reducible refine gate_dst (N := 7) rfl ?_); refine fr_new H (N := 7) rfl rfl (cs := #[.int .i64 0, .int .i64 0, .int .i64 0, .int .i64 0, .int .i64 0, .int .i64 0, .bool false, .bool false, .int .i64 0, .int .i64 0, .int .i64 0, .int .i64 0, .int .i64 0, .slice none 0 0]) (t := 38) ?hr ?_; (case hr => first | (go_simp; done) | (go_simp; rfl)); intro g7 w7 H1; clear H; have H := H1; clear H1)
              | ((with_reducible refine gate_store (t := 38) (p := 7) rfl ?_); refine fr_put H rfl rfl rfl rfl rfl (by repeat (first | exact At.head | apply At.tail)) (by rfl) (by kernel_rfl) (by simp [Value.oneCell']) ?_; intro w7_ H1; clear H; have H := H1; clear H1)
              | ((with_reducible refine gate_dst (N := 49) rfl ?_); refine fr_load H rfl rfl rfl (by repeat (first | exact At.head | apply At.tail)) Try.underlying23 rfl (by kernel_rfl) ?_)
              | ((with_reducible refine gate_dst (N := 57) rfl ?_); (try (refine gate_guard (by rfl) ?_; dsimp only)); refine fr_load H rfl rfl rfl (by repeat (first | exact At.head | apply At.tail)) Try.underlying38 rfl (by kernel_rfl) ?_)
              | ((with_reducible refine gate_dst (N := 63) rfl ?_); (try (refine gate_guard (by rfl) ?_; dsimp only)); refine fr_load H rfl rfl rfl (by repeat (first | exact At.head | apply At.tail)) Try.underlying38 rfl (by kernel_rfl) ?_)
              | (go_at_call 19; (with_reducible refine (HCC.out _ A1 _ H.avs H.tr).mono ?_); rintro e w' ⟨A2, c2, rfl, hb, hl2, hT⟩; have H1 := H.call2 hb hT; clear hb hT; clear H; have H := H1; clear H1)
              | (go_at_call 20; (with_reducible refine (refChoose_calls b0 b1 D b3 b4 b5 b6 b7 b8 b9 b10 b11 A1 c1 l _ (H.now.1) hc (-1) HY.out).mono ?_); rintro e w' ⟨rfl, hb⟩; have H1 := H.call hb; clear hb; clear H; have H := H1; clear H1)
              | (go_at_call 21; (with_reducible refine (same0_calls M HM.out A2 c2 _ (H.now.2) hl2).mono ?_); rintro e w' ⟨rfl, hb⟩; have H1 := H.call hb; clear hb; clear H; have H := H1; clear H1))
            go_ret
            exact ⟨rfl, H.below⟩
          · obtain ⟨ad, A3, c3, rfl, hl3, hT3⟩ := tr_elem2 H.tr y y0 y1
            have hmem : (rd_T38 l y).f10.length ≤ 256 := HT2.out _ (getD_mem z38 l y y0 y1)
            have hyg : decide (y < 0) = false := decide_eq_false (by omega)
            rw [← hM] at hT3 hl3 hmem
            have H1 := H.call2 (Below.refl _ _) hT3
            clear hT3 H
            have H := H1
            clear H1 hM
            go_wp2_with (first
              | ((with_reducible refine gate_dst (N := 2) rfl ?_); refine fr_box H rfl rfl rfl ?_; intro g2 w2 H1; clear H; have H := H1; clear H1)
              | ((with_reducible refine gate_dst (N := 12) rfl ?_); refine fr_load H rfl rfl rfl (by repeat (first | exact At.head | apply At.tail)) Try.underlying23 rfl (by kernel_rfl) ?_)
              | ((with_reducible refine gate_dst (N := 6) rfl ?_); refine fr_new H (N := 6) rfl rfl (cs := #[.int .i64 0, .int .i64 0, .int .i64 0, .int .i64 0, .int .i64 0, .int .i64 0, .bool false, .bool false, .int .i64 0, .int .i64 0, .int .i64 0, .int .i64 0, .int .i64 0, .slice none 0 0]) (t := 38) ?hr ?_; (case hr => first | (go_simp; done) | (go_simp; rfl)); intro g6 w6 H1; clear H; have H := H1; clear H1)
              | ((with_reducible refine gate_store (t := 38) (p := 6) rfl ?_); refine fr_put H rfl rfl rfl rfl rfl (by repeat (first | exact At.head | apply At.tail)) (by rfl) (by kernel_rfl) (by simp [Value.oneCell']) ?_; intro w6_ H1; clear H; have H := H1; clear H1)
              | ((with_reducible refine gate_dst (N := 26) rfl ?_); refine fr_get H rfl rfl rfl (by repeat (first | exact At.head | apply At.tail)) Try.underlying36 rfl (by simp only [List.getElem?_toArray, List.getElem?_cons_succ, List.getElem?_cons_zero]; rfl) ?_)
              | ((with_reducible refine gate_dst (N := 30) rfl ?_); (try (refine gate_guard (by rfl) ?_; dsimp only)); refine fr_load H rfl rfl rfl (by repeat (first | exact At.head | apply At.tail)) Try.underlying23 rfl (by kernel_rfl) ?_)
              | ((with_reducible refine gate_dst (N := 31) rfl ?_); (try (refine gate_guard (by rfl) ?_; dsimp only)); refine fr_load H rfl rfl rfl (by repeat (first | exact At.head | apply At.tail)) Try.underlying38 rfl (by kernel_rfl) ?_)
              | ((with_reducible refine gate_dst (N := 33) rfl ?_); (try (refine gate_guard (by rfl) ?_; dsimp only)); refine fr_load H rfl rfl rfl (by repeat (first | exact At.head | apply At.tail)) Try.underlying23 rfl (by kernel_rfl) ?_)
              | ((with_reducible refine gate_dst (N := 34) rfl ?_); (try (refine gate_guard (by rfl) ?_; dsimp only)); refine fr_load H rfl rfl rfl (by repeat (first | exact At.head | apply At.tail)) Try.underlying38 rfl (by kernel_rfl) ?_)
              | ((with_reducible refine gate_dst (N := 39) rfl ?_); refine fr_get H rfl rfl rfl (by repeat (first | exact At.head | apply At.tail)) Try.underlying36 rfl (by simp only [List.getElem?_toArray, List.getElem?_cons_succ, List.getElem?_cons_zero]; rfl) ?_)
              | ((with_reducible refine gate_dst (N := 44) rfl ?_); refine fr_load H rfl rfl rfl (by repeat (first | exact At.head | apply At.tail)) Try.underlying23 rfl (by kernel_rfl) ?_)
              | ((with_reducible refine gate_dst (N := 7) rfl ?_); refine fr_new H (N := 7) rfl rfl (cs := #[.int .i64 0, .int .i64 0, .int .i64 0, .int .i64 0, .int .i64 0, .int .i64 0, .bool false, .bool false, .int .i64 0, .int .i64 0, .int .i64 0, .int .i64 0, .int .i64 0, .slice none 0 0]) (t := 38) ?hr ?_; (case hr => first | (go_simp; done) | (go_simp; rfl)); intro g7 w7 H1; clear H; have H := H1; clear H1)
              | ((with_reducible refine gate_store (t := 38) (p := 7) rfl ?_); refine fr_put H rfl rfl rfl rfl rfl (by repeat (first | exact At.head | apply At.tail)) (by rfl) (by kernel_rfl) (by simp [Value.oneCell']) ?_; intro w7_ H1; clear H; have H := H1; clear H1)
              | ((with_reducible refine gate_dst (N := 49) rfl ?_); refine fr_load H rfl rfl rfl (by repeat (first | exact At.head | apply At.tail)) Try.underlying23 rfl (by kernel_rfl) ?_)
              | ((with_reducible refine gate_dst (N := 57) rfl ?_); (try (refine gate_guard (by rfl) ?_; dsimp only)); refine fr_load H rfl rfl rfl (by repeat (first | exact At.head | apply At.tail)) Try.underlying38 rfl (by kernel_rfl) ?_)
              | ((with_reducible refine gate_dst (N := 63) rfl ?_); (try (refine gate_guard (by rfl) ?_; dsimp only)); refine fr_load H rfl rfl rfl (by repeat (first | exact At.head | apply At.tail)) Try.underlying38 rfl (by kernel_rfl) ?_)
              | (go_at_call 19; (with_reducible refine (HCC.out _ (some ad) _ H.avs (H.tr.imp (fun W h => h.1))).mono ?_); rintro e w' ⟨A2, c2, rfl, hb, hl2, hT⟩; have H1 := H.call2 hb hT; clear hb hT; clear H; have H := H1; clear H1)
              | (go_at_call 20; (with_reducible refine (refChoose_calls b0 b1 D b3 b4 b5 b6 b7 b8 b9 b10 b11 (some ad) c1 l _ (H.now.1.1) hc y HY.out).mono ?_); rintro e w' ⟨rfl, hb⟩; have H1 := H.call hb; clear hb; clear H; have H := H1; clear H1))
            have H1 := H.imp (q := fun W => Kd.C k84 W A2 M.f10.length M.f10 ∧ (∀ j u, ([.int .i64 M.f0, .int .i64 M.f1, .int .i64 M.f2.f0, .int .i64 M.f2.f1, .int .i64 M.f3, .int .i64 M.f4, .bool M.f5, .bool M.f6, .int .i64 M.f7.f0, .int .i64 M.f7.f1, .int .i64 M.f8, .int .i64 M.f9.f0, .int .i64 M.f9.f1, .slice A3 M.f10.length c3])[j]? = some u → W.cell? ((ad.add (y.toNat * 14)).add j) = some u) ∧ Kd.C k84 W A3 M.f10.length M.f10) (fun W h => ⟨h.2, h.1.2⟩)
            clear H
            have H := H1
            clear H1
            refine fr_region H (by kernel_rfl) (by kernel_rfl) ?_
            clear H
            repeat (first
            | go_big_quiet_skip
            | ((with_reducible refine qg_move rfl ?_); go_big_quiet_want; go_big_quiet_op; go_big_quiet_on)
            | ((with_reducible refine qg_assign rfl ?_); go_big_quiet_want; go_big_quiet_op; go_big_quiet_on)
            | ((with_reducible refine qg_load rfl ?_); refine q_cells (by rfl) rfl (ad := ad.add (y.toNat * 14)) (cs := [.int .i64 M.f0, .int .i64 M.f1, .int .i64 M.f2.f0, .int .i64 M.f2.f1, .int .i64 M.f3, .int .i64 M.f4, .bool M.f5, .bool M.f6, .int .i64 M.f7.f0, .int .i64 M.f7.f1, .int .i64 M.f8, .int .i64 M.f9.f0, .int .i64 M.f9.f1, .slice A3 M.f10.length c3]) (by first | rfl | (go_simp; done) | (go_simp; rfl)) Try.underlying38 rfl (by kernel_rfl) (fun W h => h.2.1) ?_; simp only [Act.put, List.setIfInBounds_toArray, List.set_cons_zero, List.set_cons_succ])
            | ((with_reducible refine qg_load rfl ?_); first | (refine q_load (by rfl) rfl rfl (by (repeat (first | exact At.head | apply At.tail)); done) (by first | exact Try.underlying23 | exact Try.underlying38) (by rfl) (by kernel_rfl) ?_; simp only [Act.put, List.setIfInBounds_toArray, List.set_cons_zero, List.set_cons_succ]) | (refine q_get (by rfl) rfl rfl (by (repeat (first | exact At.head | apply At.tail)); done) (by first | exact Try.underlying23 | exact Try.underlying38) (by rfl) (by simp only [List.getElem?_toArray, List.getElem?_cons_succ, List.getElem?_cons_zero]; rfl) ?_; simp only [Act.put, List.setIfInBounds_toArray, List.set_cons_zero, List.set_cons_succ]) | (refine q_sub2 (by rfl) rfl rfl (by (repeat (first | exact At.head | apply At.tail)); done) (by first | exact Try.underlying23 | exact Try.underlying38) (by rfl) (by kernel_rfl) (by simp only [List.getElem?_toArray, List.getElem?_cons_succ, List.getElem?_cons_zero]; rfl) (by simp only [List.getElem?_toArray, List.getElem?_cons_succ, List.getElem?_cons_zero]; rfl) ?_; simp only [Act.put, List.setIfInBounds_toArray, List.set_cons_zero, List.set_cons_succ]))
            | ((with_reducible refine qg_call (f := 21) rfl ?_); refine q_call (by rfl) (f := 21) (args := #[.agg #[.int .i64 M.f0, .int .i64 M.f1, .int .i64 M.f2.f0, .int .i64 M.f2.f1, .int .i64 M.f3, .int .i64 M.f4, .bool M.f5, .bool M.f6, .int .i64 M.f7.f0, .int .i64 M.f7.f1, .int .i64 M.f8, .int .i64 M.f9.f0, .int .i64 M.f9.f1, .slice A2 M.f10.length c2], .agg #[.int .i64 M.f0, .int .i64 M.f1, .int .i64 M.f2.f0, .int .i64 M.f2.f1, .int .i64 M.f3, .int .i64 M.f4, .bool M.f5, .bool M.f6, .int .i64 M.f7.f0, .int .i64 M.f7.f1, .int .i64 M.f8, .int .i64 M.f9.f0, .int .i64 M.f9.f1, .slice A3 M.f10.length c3]]) (fun W => by first | (go_simp; done) | (go_simp; rfl)) (fun W H => same_calls M A2 A3 c2 c3 W hmem (H.now.1) hl2 (H.now.2.2) hl3) ?_; simp only [Act.put, List.setIfInBounds_toArray, List.set_cons_zero, List.set_cons_succ])
            | (refine q_pureK (by rfl) (fun W K hK => by go_simp; exact hK.out) ?_; simp only [Act.put, List.setIfInBounds_toArray, List.set_cons_zero, List.set_cons_succ]))
            refine q_end ?_
            intro W1 H
            go_wp2
            go_ret
            exact ⟨rfl, H.below⟩
end Go.Proofs.Ytaiggeogiolbnaa.Q
