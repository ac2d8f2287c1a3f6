/- route.Choose: what it answers is the first of the best. -/
import Derived.Test.YtaiggeogiolbnaaK1
import Derived.Test.YtaiggeogiolbnaaEv
import Derived.Test.YtaiggeogiolbnaaPl
namespace Go.Proofs.Ytaiggeogiolbnaa.K
open Go.RowKit Go.Proofs.YtaiggeogiolbnaaW.PrintWords Go.Proofs.YtaiggeogiolbnaaW.PrintLast Go.Proofs.YtaiggeogiolbnaaW.PrintMore Go.Proofs.YtaiggeogiolbnaaPl Go.Proofs.YtaiggeogiolbnaaEv

def us (D : Int) (m : S38) : Bool := decide (m.f0 = 2 ∧ m.f5 = true ∧ 0 ≤ m.f4 ∧ m.f4 < D ∧ m.f2.f0 ≤ m.f2.f1)
def ltm (a b : S38) : Bool := decide (a.f4 < b.f4 ∨ a.f4 = b.f4 ∧ (a.f3 < b.f3 ∨ a.f3 = b.f3 ∧ a.f1 < b.f1))
theorem ltm_irr (a : S38) : ltm a a = false := by simp [ltm]
theorem ltm_tr (a b c : S38) (h : ltm a b = true) (g : ltm b c = true) : ltm a c = true := by
  simp only [ltm, decide_eq_true_eq] at *
  omega
theorem ltm_ng (a b c : S38) (h : ltm a b = false) (g : ltm b c = false) : ltm a c = false := by
  simp only [ltm, decide_eq_false_iff_not] at *
  omega
theorem Usable_f (b0 b1 D b3 b4 b5 b6 b7 b8 b9 b10 b11 : Int) (m : S38) : route_Usable.f b0 b1 D b3 b4 b5 b6 b7 b8 b9 b10 b11 m.f0 m.f1 m.f2.f0 m.f2.f1 m.f3 m.f4 m.f5 m.f6 m.f7.f0 m.f7.f1 m.f8 m.f9.f0 m.f9.f1 m.f10 = some (us D m) := by
  unfold route_Usable.f span_Empty.f us
  by_cases h0 : m.f0 = 2
  · rw [if_pos h0]
    by_cases h1 : m.f5 = true
    · rw [if_pos h1]
      by_cases h2 : 0 ≤ m.f4
      · rw [if_pos (show m.f4 ≥ 0 from h2)]
        by_cases h3 : m.f4 < D
        · rw [if_pos h3]
          by_cases h4 : m.f2.f0 ≤ m.f2.f1
          · simp [h0, h1, h2, h3, h4]
          · simp [h0, h1, h2, h3, h4, Int.not_le.1 h4]
        · rw [if_neg h3]; simp [h3]
      · rw [if_neg (show ¬ m.f4 ≥ 0 from h2)]; simp [h2]
    · rw [if_neg h1]; simp [h1]
  · rw [if_neg h0]; simp [h0]
theorem Compare_f (a b : Int) : cmp_Compare_int.f a b = some (if a < b then -1 else if a > b then 1 else 0) := by
  unfold cmp_Compare_int.f cmp_isNaN_int.f
  simp only [bne_self_eq_false, Option.bind_some]
  rw [if_neg (by simp), if_neg (by simp)]
  by_cases h : a < b
  · rw [if_pos h, if_pos h]
  · rw [if_neg h, if_neg h]
    by_cases g : a > b
    · rw [if_pos g, if_pos g]
    · rw [if_neg g, if_neg g]
theorem Or_f (k : Nat) (x y z : Int) : cmp_Or_int.f (k + 4) [x, y, z] = some (if x = 0 then if y = 0 then z else y else x) := by
  unfold cmp_Or_int.f
  have w1 : wrap64 (0 + 1) = 1 := by unfold wrap64; decide
  have w2 : wrap64 (1 + 1) = 2 := by unfold wrap64; decide
  have w3 : wrap64 (2 + 1) = 3 := by unfold wrap64; decide
  simp only [cmp_Or_int.l0, rd, w1, w2, w3]
  by_cases hx : x = 0
  · by_cases hy : y = 0
    · by_cases hz : z = 0
      · simp [hx, hy, hz]
      · simp [hx, hy, hz]
    · simp [hx, hy]
  · simp [hx]
theorem better_f (k : Nat) (a b : S38) : ∃ c, route_better.f (k + 4) a.f0 a.f1 a.f2.f0 a.f2.f1 a.f3 a.f4 a.f5 a.f6 a.f7.f0 a.f7.f1 a.f8 a.f9.f0 a.f9.f1 a.f10 b.f0 b.f1 b.f2.f0 b.f2.f1 b.f3 b.f4 b.f5 b.f6 b.f7.f0 b.f7.f1 b.f8 b.f9.f0 b.f9.f1 b.f10 = some c ∧ ((c < 0) ↔ ltm a b = true) := by
  unfold route_better.f
  rw [Compare_f, Compare_f, Compare_f]
  simp only [Option.bind_some]
  rw [Or_f]
  refine ⟨_, rfl, ?_⟩
  simp only [ltm, decide_eq_true_eq]
  by_cases h1 : a.f4 < b.f4
  · simp [h1]
  · by_cases h2 : a.f4 > b.f4
    · simp [h1, h2]; omega
    · have e : a.f4 = b.f4 := by omega
      by_cases h3 : a.f3 < b.f3
      · simp [e, h3]
      · by_cases h4 : a.f3 > b.f3
        · simp [e, h3, h4]; omega
        · have e2 : a.f3 = b.f3 := by omega
          by_cases h5 : a.f1 < b.f1
          · simp [e, e2, h5]
          · by_cases h6 : a.f1 > b.f1
            · simp [e, e2, h5, h6]
            · simp [e, e2, h5, h6]

theorem us_calls (b0 b1 D b3 b4 b5 b6 b7 b8 b9 b10 b11 : Int) (m : S38) (A : Option Addr) (c : Nat) (w : World) (hr : Kd.C k84 w A m.f10.length m.f10) (hc : m.f10.length ≤ c) (r : Bool) (h : us D m = r) :
    Calls Try.prog 17 #[.agg #[.int .i64 b0, .int .i64 b1, .int .i64 D, .int .i64 b3, .int .i64 b4, .int .i64 b5, .int .i64 b6, .int .i64 b7, .int .i64 b8, .int .i64 b9, .int .i64 b10, .int .i64 b11], .agg #[.int .i64 m.f0, .int .i64 m.f1, .int .i64 m.f2.f0, .int .i64 m.f2.f1, .int .i64 m.f3, .int .i64 m.f4, .bool m.f5, .bool m.f6, .int .i64 m.f7.f0, .int .i64 m.f7.f1, .int .i64 m.f8, .int .i64 m.f9.f0, .int .i64 m.f9.f1, .slice A m.f10.length c]] w fun e w' => e = .returned (.bool r) ∧ Below w.heap.size w w' :=
  route_Usable.calls b0 b1 D b3 b4 b5 b6 b7 b8 b9 b10 b11 m.f0 m.f1 m.f2.f0 m.f2.f1 m.f3 m.f4 m.f5 m.f6 m.f7.f0 m.f7.f1 m.f8 m.f9.f0 m.f9.f1 A c m.f10 r w hr hc (h ▸ Usable_f b0 b1 D b3 b4 b5 b6 b7 b8 b9 b10 b11 m)
theorem better_calls (x y : S38) (A B : Option Addr) (c d : Nat) (w : World) (hr : Kd.C k84 w A x.f10.length x.f10) (hc : x.f10.length ≤ c) (hr2 : Kd.C k84 w B y.f10.length y.f10) (hc2 : y.f10.length ≤ d) :
    Calls Try.prog 36 #[.agg #[.int .i64 x.f0, .int .i64 x.f1, .int .i64 x.f2.f0, .int .i64 x.f2.f1, .int .i64 x.f3, .int .i64 x.f4, .bool x.f5, .bool x.f6, .int .i64 x.f7.f0, .int .i64 x.f7.f1, .int .i64 x.f8, .int .i64 x.f9.f0, .int .i64 x.f9.f1, .slice A x.f10.length c], .agg #[.int .i64 y.f0, .int .i64 y.f1, .int .i64 y.f2.f0, .int .i64 y.f2.f1, .int .i64 y.f3, .int .i64 y.f4, .bool y.f5, .bool y.f6, .int .i64 y.f7.f0, .int .i64 y.f7.f1, .int .i64 y.f8, .int .i64 y.f9.f0, .int .i64 y.f9.f1, .slice B y.f10.length d]] w fun e w' => (∃ n : Int, e = .returned (.int .i64 n) ∧ decide (n < 0) = ltm x y) ∧ Below w.heap.size w w' := by
  obtain ⟨n, h1, h2⟩ := better_f 0 x y
  refine (route_better.calls 4 x.f0 x.f1 x.f2.f0 x.f2.f1 x.f3 x.f4 x.f5 x.f6 x.f7.f0 x.f7.f1 x.f8 x.f9.f0 x.f9.f1 A c x.f10 y.f0 y.f1 y.f2.f0 y.f2.f1 y.f3 y.f4 y.f5 y.f6 y.f7.f0 y.f7.f1 y.f8 y.f9.f0 y.f9.f1 B d y.f10 n w hr hc hr2 hc2 h1).mono ?_
  rintro e w' ⟨rfl, hb⟩
  refine ⟨⟨n, rfl, ?_⟩, hb⟩
  rw [Bool.eq_iff_iff, decide_eq_true_eq]
  exact h2
theorem tr_elem {A : Nat → Prop} {W : World} {A1 : Option Addr} {l : List S38} (h : Tr A W (fun W => Kd.C k38 W A1 l.length l)) (i : Int) (h0 : 0 ≤ i) (h1 : i < (l.length : Int)) :
    ∃ ad A2 c2, A1 = some ad ∧ (∀ j u, ([.int .i64 (rd_T38 l i).f0, .int .i64 (rd_T38 l i).f1, .int .i64 (rd_T38 l i).f2.f0, .int .i64 (rd_T38 l i).f2.f1, .int .i64 (rd_T38 l i).f3, .int .i64 (rd_T38 l i).f4, .bool (rd_T38 l i).f5, .bool (rd_T38 l i).f6, .int .i64 (rd_T38 l i).f7.f0, .int .i64 (rd_T38 l i).f7.f1, .int .i64 (rd_T38 l i).f8, .int .i64 (rd_T38 l i).f9.f0, .int .i64 (rd_T38 l i).f9.f1, .slice A2 (rd_T38 l i).f10.length c2])[j]? = some u → W.cell? ((ad.add (i.toNat * 14)).add j) = some u) ∧ (rd_T38 l i).f10.length ≤ c2 ∧ Tr A W (fun W => Kd.C k84 W A2 (rd_T38 l i).f10.length (rd_T38 l i).f10) := by
  obtain ⟨ad, c, rfl, _, hK, hcc, _⟩ := Kd.F_get (d := k38) h z38 i h0 h1
  obtain ⟨A2, c2, rfl, h2, h3⟩ := k38_openF hK
  exact ⟨ad, A2, c2, rfl, fun j u hu => by rw [add_add]; exact hcc j u hu, h2, h3⟩
set_option maxHeartbeats 4000000 in
set_option maxRecDepth 100000 in
theorem Choose_calls (A : Nat → Prop) (b0 b1 D b3 b4 b5 b6 b7 b8 b9 b10 b11 : Int) (A1 : Option Addr) (c1 : Nat) (l : List S38) (w : World) (hA : ∀ k, A k → k < w.heap.size) (hr : Tr A w (fun W => Kd.C k38 W A1 l.length l)) :
    Calls Try.prog 19 #[.agg #[.int .i64 b0, .int .i64 b1, .int .i64 D, .int .i64 b3, .int .i64 b4, .int .i64 b5, .int .i64 b6, .int .i64 b7, .int .i64 b8, .int .i64 b9, .int .i64 b10, .int .i64 b11], .slice A1 l.length c1] w fun e w' => ∃ A2 c2, e = .returned (.tuple #[.agg #[.int .i64 ((pick (us D) ltm l).getD z38).f0, .int .i64 ((pick (us D) ltm l).getD z38).f1, .int .i64 ((pick (us D) ltm l).getD z38).f2.f0, .int .i64 ((pick (us D) ltm l).getD z38).f2.f1, .int .i64 ((pick (us D) ltm l).getD z38).f3, .int .i64 ((pick (us D) ltm l).getD z38).f4, .bool ((pick (us D) ltm l).getD z38).f5, .bool ((pick (us D) ltm l).getD z38).f6, .int .i64 ((pick (us D) ltm l).getD z38).f7.f0, .int .i64 ((pick (us D) ltm l).getD z38).f7.f1, .int .i64 ((pick (us D) ltm l).getD z38).f8, .int .i64 ((pick (us D) ltm l).getD z38).f9.f0, .int .i64 ((pick (us D) ltm l).getD z38).f9.f1, .slice A2 ((pick (us D) ltm l).getD z38).f10.length c2], .bool (pick (us D) ltm l).isSome]) ∧ Below w.heap.size w w' ∧ ((pick (us D) ltm l).getD z38).f10.length ≤ c2 ∧ Tr A w' (fun W => Kd.C k84 W A2 ((pick (us D) ltm l).getD z38).f10.length ((pick (us D) ltm l).getD z38).f10) := by
  have hlm : l.length ≤ 9223372036854775807 := (Foot.now hr).2.1
  have H := Fr.start hA hr
  clear hr
  go_enter Try.func19, Try.ntmps19
  go_wp2_with (first
    | ((with_reducible refine gate_dst (N := 2) rfl ?_); refine fr_box H rfl rfl rfl ?_; intro g2 w2 H1; clear H; have H := H1; clear H1)
    | ((with_reducible refine gate_dst (N := 4) rfl ?_); refine fr_new H (N := 4) rfl rfl (cs := #[.int .i64 0, .int .i64 0, .int .i64 0, .int .i64 0, .int .i64 0, .int .i64 0, .bool false, .bool false, .int .i64 0, .int .i64 0, .int .i64 0, .int .i64 0, .int .i64 0, .slice none 0 0]) (t := 38) ?hr ?_; (case hr => first | (go_simp; done) | (go_simp; rfl)); intro g4 w4 H1; clear H; have H := H1; clear H1)
    | ((with_reducible refine gate_dst (N := 6) rfl ?_); refine fr_new H (N := 6) rfl rfl (cs := #[.int .i64 0, .int .i64 0, .int .i64 0, .int .i64 0, .int .i64 0, .int .i64 0, .bool false, .bool false, .int .i64 0, .int .i64 0, .int .i64 0, .int .i64 0, .int .i64 0, .slice none 0 0]) (t := 38) ?hr ?_; (case hr => first | (go_simp; done) | (go_simp; rfl)); intro g6 w6 H1; clear H; have H := H1; clear H1)
    | ((with_reducible refine gate_store (t := 38) (p := 6) rfl ?_); refine fr_put H rfl rfl rfl rfl rfl (by repeat (first | exact At.head | apply At.tail)) (by rfl) (by kernel_rfl) (by simp [Value.oneCell']) ?_; intro w6_ H1; clear H; have H := H1; clear H1)
    | ((with_reducible refine gate_dst (N := 9) rfl ?_); refine fr_new H (N := 9) rfl rfl (cs := #[.int .i64 0, .int .i64 0, .int .i64 0, .int .i64 0, .int .i64 0, .int .i64 0, .bool false, .bool false, .int .i64 0, .int .i64 0, .int .i64 0, .int .i64 0, .int .i64 0, .slice none 0 0]) (t := 38) ?hr ?_; (case hr => first | (go_simp; done) | (go_simp; rfl)); intro g9 w9 H1; clear H; have H := H1; clear H1)
    | ((with_reducible refine gate_store (t := 38) (p := 9) rfl ?_); refine fr_put H rfl rfl rfl rfl rfl (by repeat (first | exact At.head | apply At.tail)) (by rfl) (by kernel_rfl) (by simp [Value.oneCell']) ?_; intro w9_ H1; clear H; have H := H1; clear H1)
    | ((with_reducible refine gate_dst (N := 17) rfl ?_); refine fr_load H rfl rfl rfl (by repeat (first | exact At.head | apply At.tail)) Try.underlying23 rfl (by kernel_rfl) ?_)
    | ((with_reducible refine gate_dst (N := 18) rfl ?_); refine fr_load H rfl rfl rfl (by repeat (first | exact At.head | apply At.tail)) Try.underlying38 rfl (by kernel_rfl) ?_)
    | ((with_reducible refine gate_dst (N := 24) rfl ?_); (try (refine gate_guard (by rfl) ?_; dsimp only)); refine fr_load H rfl rfl rfl (by repeat (first | exact At.head | apply At.tail)) Try.underlying38 rfl (by kernel_rfl) ?_)
    | ((with_reducible refine gate_dst (N := 25) rfl ?_); (try (refine gate_guard (by rfl) ?_; dsimp only)); refine fr_load H rfl rfl rfl (by repeat (first | exact At.head | apply At.tail)) Try.underlying38 rfl (by kernel_rfl) ?_)
    | ((with_reducible refine gate_dst (N := 30) rfl ?_); refine fr_load H rfl rfl rfl (by repeat (first | exact At.head | apply At.tail)) Try.underlying38 rfl (by kernel_rfl) ?_)
    | ((with_reducible refine gate_dst (N := 32) rfl ?_); refine fr_load H rfl rfl rfl (by repeat (first | exact At.head | apply At.tail)) Try.underlying38 rfl (by kernel_rfl) ?_)
    | ((with_reducible refine gate_store (t := 38) (p := 4) rfl ?_); refine fr_put H rfl rfl rfl rfl rfl (by repeat (first | exact At.head | apply At.tail)) (by rfl) (by kernel_rfl) (by simp [Value.oneCell']) ?_; intro w4_ H1; clear H; have H := H1; clear H1)
    | fail)
  go_loopw [7, 13] (fun v7 v13 wr => ∃ (s : Option S38) (i : Int) (A2 : Option Addr) (c2 : Nat), v7 = .bool s.isSome ∧ v13 = .int .i64 i ∧ 0 ≤ i ∧ i ≤ (l.length : Int) ∧ Hid ((l.drop i.toNat).foldl (pstep (us D) ltm) s = pick (us D) ltm l) ∧ (s.getD z38).f10.length ≤ c2 ∧
      Fr A w wr [(g6, 38, #[.int .i64 (s.getD z38).f0, .int .i64 (s.getD z38).f1, .int .i64 (s.getD z38).f2.f0, .int .i64 (s.getD z38).f2.f1, .int .i64 (s.getD z38).f3, .int .i64 (s.getD z38).f4, .bool (s.getD z38).f5, .bool (s.getD z38).f6, .int .i64 (s.getD z38).f7.f0, .int .i64 (s.getD z38).f7.f1, .int .i64 (s.getD z38).f8, .int .i64 (s.getD z38).f9.f0, .int .i64 (s.getD z38).f9.f1, .slice A2 (s.getD z38).f10.length c2]), (g4, 38, #[.int .i64 0, .int .i64 0, .int .i64 0, .int .i64 0, .int .i64 0, .int .i64 0, .bool false, .bool false, .int .i64 0, .int .i64 0, .int .i64 0, .int .i64 0, .int .i64 0, .slice none 0 0]), (g2, 23, #[.int .i64 b0, .int .i64 b1, .int .i64 D, .int .i64 b3, .int .i64 b4, .int .i64 b5, .int .i64 b6, .int .i64 b7, .int .i64 b8, .int .i64 b9, .int .i64 b10, .int .i64 b11])] (fun W => Kd.C k38 W A1 l.length l ∧ Kd.C k84 W A2 (s.getD z38).f10.length (s.getD z38).f10)) (fun _ v13 _ => l.length - (intOf v13).toNat)
  case atStart => exact ⟨none, 0, none, 0, rfl, rfl, by omega, by omega, Lib.hid rfl, Nat.le_refl _, H.imp (fun W' h => ⟨h, Kd.C_nil _ _⟩)⟩
  case round =>
    obtain ⟨s, i, A2, c2, rfl, rfl, h0, h1, HE, hl2, H⟩ := hrel
    by_cases hlt : i < (l.length : Int)
    · obtain ⟨ad, A3, c3, rfl, hcells, hl3, hT3⟩ := tr_elem (H.tr.imp (fun W' h => h.1)) i h0 hlt
      have HC := Lib.hid hcells
      clear hcells
      obtain ⟨m, hm⟩ : ∃ m, rd_T38 l i = m := ⟨_, rfl⟩
      rw [hm] at HC hl3 hT3
      have HM := Lib.hid hm
      clear hm
      have H1 := H.call2 (Below.refl _ _) hT3
      clear hT3 H
      have H := H1
      clear H1
      have HS := Lib.hid (show (l.drop (i + 1).toNat).foldl (pstep (us D) ltm) (pstep (us D) ltm s m) = pick (us D) ltm l by
        have h := HE.out
        rw [drop_at z38 l i h0 hlt, List.foldl_cons] at h
        rw [← show l.getD i.toNat z38 = m from HM.out]
        exact h)
      cases hu : us D m with
      | false =>
        have HP := Lib.hid (show pstep (us D) ltm s m = s by unfold pstep; simp [hu])
        go_wp2_with (first
          | ((with_reducible refine gate_dst (N := 16) rfl ?_); refine load_cells rfl rfl (ad := ad.add (i.toNat * 14)) (cs := [.int .i64 m.f0, .int .i64 m.f1, .int .i64 m.f2.f0, .int .i64 m.f2.f1, .int .i64 m.f3, .int .i64 m.f4, .bool m.f5, .bool m.f6, .int .i64 m.f7.f0, .int .i64 m.f7.f1, .int .i64 m.f8, .int .i64 m.f9.f0, .int .i64 m.f9.f1, .slice A3 m.f10.length c3]) ?hx Try.underlying38 rfl (by kernel_rfl) HC.out ?_; (case hx => first | rfl | (go_simp; done) | (go_simp; rfl)))
          | ((with_reducible refine gate_dst (N := 2) rfl ?_); refine fr_box H rfl rfl rfl ?_; intro g2 w2 H1; clear H; have H := H1; clear H1)
          | ((with_reducible refine gate_dst (N := 4) rfl ?_); refine fr_new H (N := 4) rfl rfl (cs := #[.int .i64 0, .int .i64 0, .int .i64 0, .int .i64 0, .int .i64 0, .int .i64 0, .bool false, .bool false, .int .i64 0, .int .i64 0, .int .i64 0, .int .i64 0, .int .i64 0, .slice none 0 0]) (t := 38) ?hr ?_; (case hr => first | (go_simp; done) | (go_simp; rfl)); intro g4 w4 H1; clear H; have H := H1; clear H1)
          | ((with_reducible refine gate_dst (N := 6) rfl ?_); refine fr_new H (N := 6) rfl rfl (cs := #[.int .i64 0, .int .i64 0, .int .i64 0, .int .i64 0, .int .i64 0, .int .i64 0, .bool false, .bool false, .int .i64 0, .int .i64 0, .int .i64 0, .int .i64 0, .int .i64 0, .slice none 0 0]) (t := 38) ?hr ?_; (case hr => first | (go_simp; done) | (go_simp; rfl)); intro g6 w6 H1; clear H; have H := H1; clear H1)
          | ((with_reducible refine gate_store (t := 38) (p := 6) rfl ?_); refine fr_put H rfl rfl rfl rfl rfl (by repeat (first | exact At.head | apply At.tail)) (by rfl) (by kernel_rfl) (by simp [Value.oneCell']) ?_; intro w6_ H1; clear H; have H := H1; clear H1)
          | ((with_reducible refine gate_dst (N := 9) rfl ?_); refine fr_new H (N := 9) rfl rfl (cs := #[.int .i64 0, .int .i64 0, .int .i64 0, .int .i64 0, .int .i64 0, .int .i64 0, .bool false, .bool false, .int .i64 0, .int .i64 0, .int .i64 0, .int .i64 0, .int .i64 0, .slice none 0 0]) (t := 38) ?hr ?_; (case hr => first | (go_simp; done) | (go_simp; rfl)); intro g9 w9 H1; clear H; have H := H1; clear H1)
          | ((with_reducible refine gate_store (t := 38) (p := 9) rfl ?_); refine fr_put H rfl rfl rfl rfl rfl (by repeat (first | exact At.head | apply At.tail)) (by rfl) (by kernel_rfl) (by simp [Value.oneCell']) ?_; intro w9_ H1; clear H; have H := H1; clear H1)
          | ((with_reducible refine gate_dst (N := 17) rfl ?_); refine fr_load H rfl rfl rfl (by repeat (first | exact At.head | apply At.tail)) Try.underlying23 rfl (by kernel_rfl) ?_)
          | ((with_reducible refine gate_dst (N := 18) rfl ?_); refine fr_load H rfl rfl rfl (by repeat (first | exact At.head | apply At.tail)) Try.underlying38 rfl (by kernel_rfl) ?_)
          | ((with_reducible refine gate_dst (N := 24) rfl ?_); (try (refine gate_guard (by rfl) ?_; dsimp only)); refine fr_load H rfl rfl rfl (by repeat (first | exact At.head | apply At.tail)) Try.underlying38 rfl (by kernel_rfl) ?_)
          | ((with_reducible refine gate_dst (N := 25) rfl ?_); (try (refine gate_guard (by rfl) ?_; dsimp only)); refine fr_load H rfl rfl rfl (by repeat (first | exact At.head | apply At.tail)) Try.underlying38 rfl (by kernel_rfl) ?_)
          | ((with_reducible refine gate_dst (N := 30) rfl ?_); refine fr_load H rfl rfl rfl (by repeat (first | exact At.head | apply At.tail)) Try.underlying38 rfl (by kernel_rfl) ?_)
          | ((with_reducible refine gate_dst (N := 32) rfl ?_); refine fr_load H rfl rfl rfl (by repeat (first | exact At.head | apply At.tail)) Try.underlying38 rfl (by kernel_rfl) ?_)
          | ((with_reducible refine gate_store (t := 38) (p := 4) rfl ?_); refine fr_put H rfl rfl rfl rfl rfl (by repeat (first | exact At.head | apply At.tail)) (by rfl) (by kernel_rfl) (by simp [Value.oneCell']) ?_; intro w4_ H1; clear H; have H := H1; clear H1)
          | (go_at_call 17; refine (us_calls b0 b1 D b3 b4 b5 b6 b7 b8 b9 b10 b11 m A3 c3 _ (H.now.2) hl3 false hu).mono ?_; rintro e w' ⟨rfl, hb⟩; have H1 := H.call hb; clear hb; clear H; have H := H1; clear H1))
        go_roundw
        case rel =>
          have h2 := HS.out
          rw [HP.out] at h2
          exact ⟨s, i + 1, A2, c2, rfl, rfl, by omega, by omega, Lib.hid h2, hl2, (H.drop).imp (fun W' h => h.1)⟩
        case measure => simp [intOf]; omega
      | true =>
        cases s with
        | none =>
          have HP := Lib.hid (show pstep (us D) ltm none m = some m by unfold pstep beats; simp [hu])
          simp only [Option.isSome_none]
          go_wp2_with (first
            | ((with_reducible refine gate_dst (N := 16) rfl ?_); refine load_cells rfl rfl (ad := ad.add (i.toNat * 14)) (cs := [.int .i64 m.f0, .int .i64 m.f1, .int .i64 m.f2.f0, .int .i64 m.f2.f1, .int .i64 m.f3, .int .i64 m.f4, .bool m.f5, .bool m.f6, .int .i64 m.f7.f0, .int .i64 m.f7.f1, .int .i64 m.f8, .int .i64 m.f9.f0, .int .i64 m.f9.f1, .slice A3 m.f10.length c3]) ?hx Try.underlying38 rfl (by kernel_rfl) HC.out ?_; (case hx => first | rfl | (go_simp; done) | (go_simp; rfl)))
            | ((with_reducible refine gate_dst (N := 2) rfl ?_); refine fr_box H rfl rfl rfl ?_; intro g2 w2 H1; clear H; have H := H1; clear H1)
            | ((with_reducible refine gate_dst (N := 4) rfl ?_); refine fr_new H (N := 4) rfl rfl (cs := #[.int .i64 0, .int .i64 0, .int .i64 0, .int .i64 0, .int .i64 0, .int .i64 0, .bool false, .bool false, .int .i64 0, .int .i64 0, .int .i64 0, .int .i64 0, .int .i64 0, .slice none 0 0]) (t := 38) ?hr ?_; (case hr => first | (go_simp; done) | (go_simp; rfl)); intro g4 w4 H1; clear H; have H := H1; clear H1)
            | ((with_reducible refine gate_dst (N := 6) rfl ?_); refine fr_new H (N := 6) rfl rfl (cs := #[.int .i64 0, .int .i64 0, .int .i64 0, .int .i64 0, .int .i64 0, .int .i64 0, .bool false, .bool false, .int .i64 0, .int .i64 0, .int .i64 0, .int .i64 0, .int .i64 0, .slice none 0 0]) (t := 38) ?hr ?_; (case hr => first | (go_simp; done) | (go_simp; rfl)); intro g6 w6 H1; clear H; have H := H1; clear H1)
            | ((with_reducible refine gate_store (t := 38) (p := 6) rfl ?_); refine fr_put H rfl rfl rfl rfl rfl (by repeat (first | exact At.head | apply At.tail)) (by rfl) (by kernel_rfl) (by simp [Value.oneCell']) ?_; intro w6_ H1; clear H; have H := H1; clear H1)
            | ((with_reducible refine gate_dst (N := 9) rfl ?_); refine fr_new H (N := 9) rfl rfl (cs := #[.int .i64 0, .int .i64 0, .int .i64 0, .int .i64 0, .int .i64 0, .int .i64 0, .bool false, .bool false, .int .i64 0, .int .i64 0, .int .i64 0, .int .i64 0, .int .i64 0, .slice none 0 0]) (t := 38) ?hr ?_; (case hr => first | (go_simp; done) | (go_simp; rfl)); intro g9 w9 H1; clear H; have H := H1; clear H1)
            | ((with_reducible refine gate_store (t := 38) (p := 9) rfl ?_); refine fr_put H rfl rfl rfl rfl rfl (by repeat (first | exact At.head | apply At.tail)) (by rfl) (by kernel_rfl) (by simp [Value.oneCell']) ?_; intro w9_ H1; clear H; have H := H1; clear H1)
            | ((with_reducible refine gate_dst (N := 17) rfl ?_); refine fr_load H rfl rfl rfl (by repeat (first | exact At.head | apply At.tail)) Try.underlying23 rfl (by kernel_rfl) ?_)
            | ((with_reducible refine gate_dst (N := 18) rfl ?_); refine fr_load H rfl rfl rfl (by repeat (first | exact At.head | apply At.tail)) Try.underlying38 rfl (by kernel_rfl) ?_)
            | ((with_reducible refine gate_dst (N := 24) rfl ?_); (try (refine gate_guard (by rfl) ?_; dsimp only)); refine fr_load H rfl rfl rfl (by repeat (first | exact At.head | apply At.tail)) Try.underlying38 rfl (by kernel_rfl) ?_)
            | ((with_reducible refine gate_dst (N := 25) rfl ?_); (try (refine gate_guard (by rfl) ?_; dsimp only)); refine fr_load H rfl rfl rfl (by repeat (first | exact At.head | apply At.tail)) Try.underlying38 rfl (by kernel_rfl) ?_)
            | ((with_reducible refine gate_dst (N := 30) rfl ?_); refine fr_load H rfl rfl rfl (by repeat (first | exact At.head | apply At.tail)) Try.underlying38 rfl (by kernel_rfl) ?_)
            | ((with_reducible refine gate_dst (N := 32) rfl ?_); refine fr_load H rfl rfl rfl (by repeat (first | exact At.head | apply At.tail)) Try.underlying38 rfl (by kernel_rfl) ?_)
            | ((with_reducible refine gate_store (t := 38) (p := 4) rfl ?_); refine fr_put H rfl rfl rfl rfl rfl (by repeat (first | exact At.head | apply At.tail)) (by rfl) (by kernel_rfl) (by simp [Value.oneCell']) ?_; intro w4_ H1; clear H; have H := H1; clear H1)
            | (go_at_call 17; refine (us_calls b0 b1 D b3 b4 b5 b6 b7 b8 b9 b10 b11 m A3 c3 _ (H.now.2) hl3 true hu).mono ?_; rintro e w' ⟨rfl, hb⟩; have H1 := H.call hb; clear hb; clear H; have H := H1; clear H1))
          go_roundw
          case rel =>
            have h2 := HS.out
            rw [HP.out] at h2
            exact ⟨some m, i + 1, A3, c3, rfl, rfl, by omega, by omega, Lib.hid h2, hl3, (H.drop).imp (fun W' h => ⟨h.1.1, h.2⟩)⟩
          case measure => simp [intOf]; omega
        | some b =>
          simp only [Option.isSome_some, Option.getD_some] at H hl2 ⊢
          cases hb2 : ltm m b with
          | false =>
            have HP := Lib.hid (show pstep (us D) ltm (some b) m = some b by unfold pstep beats; simp [hu, hb2])
            go_wp2_with (first
              | ((with_reducible refine gate_dst (N := 16) rfl ?_); refine load_cells rfl rfl (ad := ad.add (i.toNat * 14)) (cs := [.int .i64 m.f0, .int .i64 m.f1, .int .i64 m.f2.f0, .int .i64 m.f2.f1, .int .i64 m.f3, .int .i64 m.f4, .bool m.f5, .bool m.f6, .int .i64 m.f7.f0, .int .i64 m.f7.f1, .int .i64 m.f8, .int .i64 m.f9.f0, .int .i64 m.f9.f1, .slice A3 m.f10.length c3]) ?hx Try.underlying38 rfl (by kernel_rfl) HC.out ?_; (case hx => first | rfl | (go_simp; done) | (go_simp; rfl)))
              | ((with_reducible refine gate_dst (N := 2) rfl ?_); refine fr_box H rfl rfl rfl ?_; intro g2 w2 H1; clear H; have H := H1; clear H1)
              | ((with_reducible refine gate_dst (N := 4) rfl ?_); refine fr_new H (N := 4) rfl rfl (cs := #[.int .i64 0, .int .i64 0, .int .i64 0, .int .i64 0, .int .i64 0, .int .i64 0, .bool false, .bool false, .int .i64 0, .int .i64 0, .int .i64 0, .int .i64 0, .int .i64 0, .slice none 0 0]) (t := 38) ?hr ?_; (case hr => first | (go_simp; done) | (go_simp; rfl)); intro g4 w4 H1; clear H; have H := H1; clear H1)
              | ((with_reducible refine gate_dst (N := 6) rfl ?_); refine fr_new H (N := 6) rfl rfl (cs := #[.int .i64 0, .int .i64 0, .int .i64 0, .int .i64 0, .int .i64 0, .int .i64 0, .bool false, .bool false, .int .i64 0, .int .i64 0, .int .i64 0, .int .i64 0, .int .i64 0, .slice none 0 0]) (t := 38) ?hr ?_; (case hr => first | (go_simp; done) | (go_simp; rfl)); intro g6 w6 H1; clear H; have H := H1; clear H1)
              | ((with_reducible refine gate_store (t := 38) (p := 6) rfl ?_); refine fr_put H rfl rfl rfl rfl rfl (by repeat (first | exact At.head | apply At.tail)) (by rfl) (by kernel_rfl) (by simp [Value.oneCell']) ?_; intro w6_ H1; clear H; have H := H1; clear H1)
              | ((with_reducible refine gate_dst (N := 9) rfl ?_); refine fr_new H (N := 9) rfl rfl (cs := #[.int .i64 0, .int .i64 0, .int .i64 0, .int .i64 0, .int .i64 0, .int .i64 0, .bool false, .bool false, .int .i64 0, .int .i64 0, .int .i64 0, .int .i64 0, .int .i64 0, .slice none 0 0]) (t := 38) ?hr ?_; (case hr => first | (go_simp; done) | (go_simp; rfl)); intro g9 w9 H1; clear H; have H := H1; clear H1)
              | ((with_reducible refine gate_store (t := 38) (p := 9) rfl ?_); refine fr_put H rfl rfl rfl rfl rfl (by repeat (first | exact At.head | apply At.tail)) (by rfl) (by kernel_rfl) (by simp [Value.oneCell']) ?_; intro w9_ H1; clear H; have H := H1; clear H1)
              | ((with_reducible refine gate_dst (N := 17) rfl ?_); refine fr_load H rfl rfl rfl (by repeat (first | exact At.head | apply At.tail)) Try.underlying23 rfl (by kernel_rfl) ?_)
              | ((with_reducible refine gate_dst (N := 18) rfl ?_); refine fr_load H rfl rfl rfl (by repeat (first | exact At.head | apply At.tail)) Try.underlying38 rfl (by kernel_rfl) ?_)
              | ((with_reducible refine gate_dst (N := 24) rfl ?_); (try (refine gate_guard (by rfl) ?_; dsimp only)); refine fr_load H rfl rfl rfl (by repeat (first | exact At.head | apply At.tail)) Try.underlying38 rfl (by kernel_rfl) ?_)
              | ((with_reducible refine gate_dst (N := 25) rfl ?_); (try (refine gate_guard (by rfl) ?_; dsimp only)); refine fr_load H rfl rfl rfl (by repeat (first | exact At.head | apply At.tail)) Try.underlying38 rfl (by kernel_rfl) ?_)
              | ((with_reducible refine gate_dst (N := 30) rfl ?_); refine fr_load H rfl rfl rfl (by repeat (first | exact At.head | apply At.tail)) Try.underlying38 rfl (by kernel_rfl) ?_)
              | ((with_reducible refine gate_dst (N := 32) rfl ?_); refine fr_load H rfl rfl rfl (by repeat (first | exact At.head | apply At.tail)) Try.underlying38 rfl (by kernel_rfl) ?_)
              | ((with_reducible refine gate_store (t := 38) (p := 4) rfl ?_); refine fr_put H rfl rfl rfl rfl rfl (by repeat (first | exact At.head | apply At.tail)) (by rfl) (by kernel_rfl) (by simp [Value.oneCell']) ?_; intro w4_ H1; clear H; have H := H1; clear H1)
              | (go_at_call 17; refine (us_calls b0 b1 D b3 b4 b5 b6 b7 b8 b9 b10 b11 m A3 c3 _ (H.now.2) hl3 true hu).mono ?_; rintro e w' ⟨rfl, hb⟩; have H1 := H.call hb; clear hb; clear H; have H := H1; clear H1)
              | (go_at_call 36; refine (better_calls m b A3 A2 c3 c2 _ (H.now.2) hl3 (H.now.1.2) hl2).mono ?_; rintro e w' ⟨⟨n, rfl, hn⟩, hb⟩; rw [hb2] at hn; have H1 := H.call hb; clear hb; clear H; have H := H1; clear H1))
            go_roundw
            case rel =>
              have h2 := HS.out
              rw [HP.out] at h2
              exact ⟨some b, i + 1, A2, c2, rfl, rfl, by omega, by omega, Lib.hid h2, hl2, (H.drop).imp (fun W' h => h.1)⟩
            case measure => simp [intOf]; omega
          | true =>
            have HP := Lib.hid (show pstep (us D) ltm (some b) m = some m by unfold pstep beats; simp [hu, hb2])
            go_wp2_with (first
              | ((with_reducible refine gate_dst (N := 16) rfl ?_); refine load_cells rfl rfl (ad := ad.add (i.toNat * 14)) (cs := [.int .i64 m.f0, .int .i64 m.f1, .int .i64 m.f2.f0, .int .i64 m.f2.f1, .int .i64 m.f3, .int .i64 m.f4, .bool m.f5, .bool m.f6, .int .i64 m.f7.f0, .int .i64 m.f7.f1, .int .i64 m.f8, .int .i64 m.f9.f0, .int .i64 m.f9.f1, .slice A3 m.f10.length c3]) ?hx Try.underlying38 rfl (by kernel_rfl) HC.out ?_; (case hx => first | rfl | (go_simp; done) | (go_simp; rfl)))
              | ((with_reducible refine gate_dst (N := 2) rfl ?_); refine fr_box H rfl rfl rfl ?_; intro g2 w2 H1; clear H; have H := H1; clear H1)
              | ((with_reducible refine gate_dst (N := 4) rfl ?_); refine fr_new H (N := 4) rfl rfl (cs := #[.int .i64 0, .int .i64 0, .int .i64 0, .int .i64 0, .int .i64 0, .int .i64 0, .bool false, .bool false, .int .i64 0, .int .i64 0, .int .i64 0, .int .i64 0, .int .i64 0, .slice none 0 0]) (t := 38) ?hr ?_; (case hr => first | (go_simp; done) | (go_simp; rfl)); intro g4 w4 H1; clear H; have H := H1; clear H1)
              | ((with_reducible refine gate_dst (N := 6) rfl ?_); refine fr_new H (N := 6) rfl rfl (cs := #[.int .i64 0, .int .i64 0, .int .i64 0, .int .i64 0, .int .i64 0, .int .i64 0, .bool false, .bool false, .int .i64 0, .int .i64 0, .int .i64 0, .int .i64 0, .int .i64 0, .slice none 0 0]) (t := 38) ?hr ?_; (case hr => first | (go_simp; done) | (go_simp; rfl)); intro g6 w6 H1; clear H; have H := H1; clear H1)
              | ((with_reducible refine gate_store (t := 38) (p := 6) rfl ?_); refine fr_put H rfl rfl rfl rfl rfl (by repeat (first | exact At.head | apply At.tail)) (by rfl) (by kernel_rfl) (by simp [Value.oneCell']) ?_; intro w6_ H1; clear H; have H := H1; clear H1)
              | ((with_reducible refine gate_dst (N := 9) rfl ?_); refine fr_new H (N := 9) rfl rfl (cs := #[.int .i64 0, .int .i64 0, .int .i64 0, .int .i64 0, .int .i64 0, .int .i64 0, .bool false, .bool false, .int .i64 0, .int .i64 0, .int .i64 0, .int .i64 0, .int .i64 0, .slice none 0 0]) (t := 38) ?hr ?_; (case hr => first | (go_simp; done) | (go_simp; rfl)); intro g9 w9 H1; clear H; have H := H1; clear H1)
              | ((with_reducible refine gate_store (t := 38) (p := 9) rfl ?_); refine fr_put H rfl rfl rfl rfl rfl (by repeat (first | exact At.head | apply At.tail)) (by rfl) (by kernel_rfl) (by simp [Value.oneCell']) ?_; intro w9_ H1; clear H; have H := H1; clear H1)
              | ((with_reducible refine gate_dst (N := 17) rfl ?_); refine fr_load H rfl rfl rfl (by repeat (first | exact At.head | apply At.tail)) Try.underlying23 rfl (by kernel_rfl) ?_)
              | ((with_reducible refine gate_dst (N := 18) rfl ?_); refine fr_load H rfl rfl rfl (by repeat (first | exact At.head | apply At.tail)) Try.underlying38 rfl (by kernel_rfl) ?_)
              | ((with_reducible refine gate_dst (N := 24) rfl ?_); (try (refine gate_guard (by rfl) ?_; dsimp only)); refine fr_load H rfl rfl rfl (by repeat (first | exact At.head | apply At.tail)) Try.underlying38 rfl (by kernel_rfl) ?_)
              | ((with_reducible refine gate_dst (N := 25) rfl ?_); (try (refine gate_guard (by rfl) ?_; dsimp only)); refine fr_load H rfl rfl rfl (by repeat (first | exact At.head | apply At.tail)) Try.underlying38 rfl (by kernel_rfl) ?_)
              | ((with_reducible refine gate_dst (N := 30) rfl ?_); refine fr_load H rfl rfl rfl (by repeat (first | exact At.head | apply At.tail)) Try.underlying38 rfl (by kernel_rfl) ?_)
              | ((with_reducible refine gate_dst (N := 32) rfl ?_); refine fr_load H rfl rfl rfl (by repeat (first | exact At.head | apply At.tail)) Try.underlying38 rfl (by kernel_rfl) ?_)
              | ((with_reducible refine gate_store (t := 38) (p := 4) rfl ?_); refine fr_put H rfl rfl rfl rfl rfl (by repeat (first | exact At.head | apply At.tail)) (by rfl) (by kernel_rfl) (by simp [Value.oneCell']) ?_; intro w4_ H1; clear H; have H := H1; clear H1)
              | (go_at_call 17; refine (us_calls b0 b1 D b3 b4 b5 b6 b7 b8 b9 b10 b11 m A3 c3 _ (H.now.2) hl3 true hu).mono ?_; rintro e w' ⟨rfl, hb⟩; have H1 := H.call hb; clear hb; clear H; have H := H1; clear H1)
              | (go_at_call 36; refine (better_calls m b A3 A2 c3 c2 _ (H.now.2) hl3 (H.now.1.2) hl2).mono ?_; rintro e w' ⟨⟨n, rfl, hn⟩, hb⟩; rw [hb2] at hn; have H1 := H.call hb; clear hb; clear H; have H := H1; clear H1))
            go_roundw
            case rel =>
              have h2 := HS.out
              rw [HP.out] at h2
              exact ⟨some m, i + 1, A3, c3, rfl, rfl, by omega, by omega, Lib.hid h2, hl3, (H.drop).imp (fun W' h => ⟨h.1.1, h.2⟩)⟩
            case measure => simp [intOf]; omega
    · have HE2 : pick (us D) ltm l = s := by
        have h := HE.out
        rw [drop_end l i (by omega)] at h
        exact h.symm
      have HE3 := Lib.hid HE2
      clear HE HE2
      go_wp2_with (first
        | ((with_reducible refine gate_dst (N := 2) rfl ?_); refine fr_box H rfl rfl rfl ?_; intro g2 w2 H1; clear H; have H := H1; clear H1)
        | ((with_reducible refine gate_dst (N := 4) rfl ?_); refine fr_new H (N := 4) rfl rfl (cs := #[.int .i64 0, .int .i64 0, .int .i64 0, .int .i64 0, .int .i64 0, .int .i64 0, .bool false, .bool false, .int .i64 0, .int .i64 0, .int .i64 0, .int .i64 0, .int .i64 0, .slice none 0 0]) (t := 38) ?hr ?_; (case hr => first | (go_simp; done) | (go_simp; rfl)); intro g4 w4 H1; clear H; have H := H1; clear H1)
        | ((with_reducible refine gate_dst (N := 6) rfl ?_); refine fr_new H (N := 6) rfl rfl (cs := #[.int .i64 0, .int .i64 0, .int .i64 0, .int .i64 0, .int .i64 0, .int .i64 0, .bool false, .bool false, .int .i64 0, .int .i64 0, .int .i64 0, .int .i64 0, .int .i64 0, .slice none 0 0]) (t := 38) ?hr ?_; (case hr => first | (go_simp; done) | (go_simp; rfl)); intro g6 w6 H1; clear H; have H := H1; clear H1)
        | ((with_reducible refine gate_store (t := 38) (p := 6) rfl ?_); refine fr_put H rfl rfl rfl rfl rfl (by repeat (first | exact At.head | apply At.tail)) (by rfl) (by kernel_rfl) (by simp [Value.oneCell']) ?_; intro w6_ H1; clear H; have H := H1; clear H1)
        | ((with_reducible refine gate_dst (N := 9) rfl ?_); refine fr_new H (N := 9) rfl rfl (cs := #[.int .i64 0, .int .i64 0, .int .i64 0, .int .i64 0, .int .i64 0, .int .i64 0, .bool false, .bool false, .int .i64 0, .int .i64 0, .int .i64 0, .int .i64 0, .int .i64 0, .slice none 0 0]) (t := 38) ?hr ?_; (case hr => first | (go_simp; done) | (go_simp; rfl)); intro g9 w9 H1; clear H; have H := H1; clear H1)
        | ((with_reducible refine gate_store (t := 38) (p := 9) rfl ?_); refine fr_put H rfl rfl rfl rfl rfl (by repeat (first | exact At.head | apply At.tail)) (by rfl) (by kernel_rfl) (by simp [Value.oneCell']) ?_; intro w9_ H1; clear H; have H := H1; clear H1)
        | ((with_reducible refine gate_dst (N := 17) rfl ?_); refine fr_load H rfl rfl rfl (by repeat (first | exact At.head | apply At.tail)) Try.underlying23 rfl (by kernel_rfl) ?_)
        | ((with_reducible refine gate_dst (N := 18) rfl ?_); refine fr_load H rfl rfl rfl (by repeat (first | exact At.head | apply At.tail)) Try.underlying38 rfl (by kernel_rfl) ?_)
        | ((with_reducible refine gate_dst (N := 24) rfl ?_); (try (refine gate_guard (by rfl) ?_; dsimp only)); refine fr_load H rfl rfl rfl (by repeat (first | exact At.head | apply At.tail)) Try.underlying38 rfl (by kernel_rfl) ?_)
        | ((with_reducible refine gate_dst (N := 25) rfl ?_); (try (refine gate_guard (by rfl) ?_; dsimp only)); refine fr_load H rfl rfl rfl (by repeat (first | exact At.head | apply At.tail)) Try.underlying38 rfl (by kernel_rfl) ?_)
        | ((with_reducible refine gate_dst (N := 30) rfl ?_); refine fr_load H rfl rfl rfl (by repeat (first | exact At.head | apply At.tail)) Try.underlying38 rfl (by kernel_rfl) ?_)
        | ((with_reducible refine gate_dst (N := 32) rfl ?_); refine fr_load H rfl rfl rfl (by repeat (first | exact At.head | apply At.tail)) Try.underlying38 rfl (by kernel_rfl) ?_)
        | ((with_reducible refine gate_store (t := 38) (p := 4) rfl ?_); refine fr_put H rfl rfl rfl rfl rfl (by repeat (first | exact At.head | apply At.tail)) (by rfl) (by kernel_rfl) (by simp [Value.oneCell']) ?_; intro w4_ H1; clear H; have H := H1; clear H1)
        | fail)
      refine bodyPost_ret (results_ct rfl _ _ g4 38 _ (0, 0) _ rfl (H.blk _ (At.mem (cs := #[.int .i64 0, .int .i64 0, .int .i64 0, .int .i64 0, .int .i64 0, .int .i64 0, .bool false, .bool false, .int .i64 0, .int .i64 0, .int .i64 0, .int .i64 0, .int .i64 0, .slice none 0 0]) (by repeat (first | exact At.head | apply At.tail)))).1 Try.underlying38 rfl (by kernel_rfl)) rfl ?_
      rw [HE3.out]
      exact ⟨A2, c2, rfl, H.below, hl2, H.out.imp (fun W' h => h.2)⟩
end Go.Proofs.Ytaiggeogiolbnaa.K
