/- Texts XR1, Yr, in one file, without what is not needed here. -/
import Derived.Test.YtbmfgcekglgliaaGreatZGateKeeps11
namespace Go.Proofs.YtbmfgcekglgliaaGreat.XR
open Go.RowKit Go.Proofs.YtbmfgcekglgliaaGreatW.PrintWords Go.Proofs.YtbmfgcekglgliaaGreatW.PrintLast Go.Proofs.YtbmfgcekglgliaaGreatW.PrintMore
attribute [local go_sem] max2_int min2_int max_two min_two max_three min_three max_four min_four   -- for this text's walks alone
set_option linter.unusedVariables false
set_option linter.unusedSimpArgs false
def clepsydraref01_Clip.f (a0 : Int) : Option (Int) := if a0 > 2305843009213693952 then (some 2305843009213693952) else (if a0 < (-2305843009213693952) then (some (-2305843009213693952)) else (some a0))
set_option maxHeartbeats 8000000 in
set_option maxRecDepth 100000 in
theorem clepsydraref01_Clip.calls (a0 : Int) (r : Int) (w : World) (h : clepsydraref01_Clip.f a0 = some r) :
    Calls Tryz.prog 21 #[.int .i64 a0] w fun e w' => e = .returned (.int .i64 r) ∧ Drawn0 w w' := by
  have H : (if a0 > 2305843009213693952 then (some 2305843009213693952) else (if a0 < (-2305843009213693952) then (some (-2305843009213693952)) else (some a0))) = some r := h
  clear h
  by_cases c2 : a0 > 2305843009213693952
  · rw [if_pos c2] at H
    have c2b0 : decide (2305843009213693952 < a0) = true := decide_eq_true c2
    clear c2
    obtain rfl := Option.some.inj H
    go_enter Tryz.func21, Tryz.ntmps21
    go_wp2
    go_ret
    exact ⟨by first | rfl | (simp; done) | (simp [*]; done), by repeat (first | exact Drawn0.refl _ | apply Drawn0.step)⟩
  · rw [if_neg c2] at H
    have c2b0 : decide (2305843009213693952 < a0) = false := decide_eq_false c2
    clear c2
    by_cases c3 : a0 < (-2305843009213693952)
    · rw [if_pos c3] at H
      have c3b0 : decide (a0 < (-2305843009213693952)) = true := decide_eq_true c3
      clear c3
      obtain rfl := Option.some.inj H
      go_enter Tryz.func21, Tryz.ntmps21
      go_wp2
      go_ret
      exact ⟨by first | rfl | (simp; done) | (simp [*]; done), by repeat (first | exact Drawn0.refl _ | apply Drawn0.step)⟩
    · rw [if_neg c3] at H
      have c3b0 : decide (a0 < (-2305843009213693952)) = false := decide_eq_false c3
      clear c3
      obtain rfl := Option.some.inj H
      go_enter Tryz.func21, Tryz.ntmps21
      go_wp2
      go_ret
      exact ⟨by first | rfl | (simp; done) | (simp [*]; done), by repeat (first | exact Drawn0.refl _ | apply Drawn0.step)⟩
def clepsydraref03_Of.f (a0 : Int) (a1 : Int) : Option (Int × Int) := (clepsydraref01_Clip.f a0).bind fun t102 => ((clepsydraref01_Clip.f a1).bind fun t103 => (some (t102, t103)))
set_option maxHeartbeats 8000000 in
set_option maxRecDepth 100000 in
theorem clepsydraref03_Of.calls (a0 : Int) (a1 : Int) (r1 : Int) (r2 : Int) (w : World) (h : clepsydraref03_Of.f a0 a1 = some (r1, r2)) :
    Calls Tryz.prog 20 #[.int .i64 a0, .int .i64 a1] w fun e w' => e = .returned (.agg #[.int .i64 r1, .int .i64 r2]) ∧ Below w.heap.size w w' := by
  have hu25 := Tryz.underlying25
  have HB := Aside0.mk (Below.refl w.heap.size w)
  have H : ((clepsydraref01_Clip.f a0).bind fun t102 => ((clepsydraref01_Clip.f a1).bind fun t103 => (some (t102, t103)))) = some (r1, r2) := h
  clear h
  replace H := Option.bind_eq_some_iff.mp H
  obtain ⟨t102, A30, H⟩ := H
  replace H : ((clepsydraref01_Clip.f a1).bind fun t103 => (some (t102, t103))) = some (r1, r2) := H
  have A3 := Aside0.mk A30
  clear A30
  replace H := Option.bind_eq_some_iff.mp H
  obtain ⟨t103, A40, H⟩ := H
  replace H : (some (t102, t103)) = some (r1, r2) := H
  have A4 := Aside0.mk A40
  clear A40
  simp only [Option.some.injEq, Prod.mk.injEq] at H
  obtain ⟨rfl, rfl⟩ := H
  go_enter Tryz.func20, Tryz.ntmps20
  go_wp2_with (first | ((with_reducible refine gate_dst (N := 4) rfl ?_); refine box_event ?hg (N := 4) ?hd (cs := #[.int .i64 0, .int .i64 0]) (t := 25) ?hr ?_; (case hd => rfl); (case hg => rfl); (case hr => first | (go_simp; done) | (go_simp; rfl)); intro gb101 hg w5 hbox hb; have n0_ := Aside0.mk (below_step (by repeat (first | (with_reducible first | exact HB.out | apply below_alloc | apply pw_below_drewN | apply below_drew1) | exact HB.out)) hb); have n1_ := Aside0.mk (hbox); have n2_ := Aside0.mk ((by rw [hg]; exact (below_size (by repeat (first | (with_reducible first | exact HB.out | apply below_alloc | apply pw_below_drewN | apply below_drew1) | exact HB.out))) : w.heap.size ≤ gb101)); have n3_ := Aside0.mk ((by rw [hg]; exact (below_size (by repeat (first | (with_reducible first | exact HB.out | apply below_alloc | apply pw_below_drewN | apply below_drew1) | exact HB.out))) : w.heap.size ≤ gb101)); clear HB; have HB := n0_; have BK101 := n1_; have GW101 := n2_; have GE101 := n3_; clear n0_ n1_ n2_ n3_; clear hb hbox hg) | ((with_reducible refine gate_callee (f := 21) rfl ?_); refine goesL_ (some 6) rfl rfl Tryz.func21 (by kernel_rfl) rfl #[.int .i64 a0] rfl (by (try simp only [List.map_toArray, List.map_cons, List.map_nil]); first | done | rfl | (simp only [List.length_drop, List.length_take]; rfl)) ?_; (with_reducible refine (clepsydraref01_Clip.calls a0 t102 _ A3.out).mono ?_); rintro e w' ⟨rfl, ⟨nd, rfl⟩⟩; refine ⟨_, rfl, ?_⟩; (try (rw [drewN_self w5]; generalize hq_ : World.drewN w5 _ = w5; have n0_ : Aside0 (w5.heap[gb101]? = some (.cells #[.int .i64 0, .int .i64 0] 25 (0, 0))) := ⟨by rw [← hq_]; exact (by (with_reducible repeat (first | refine blk_drewN ?_ _ | refine blk_drew ?_ | refine blk_alloc ?_ _)); exact BK101.out)⟩; have n1_ : Aside0 (Below w.heap.size w w5) := ⟨by rw [← hq_]; exact (by repeat (first | (with_reducible first | exact HB.out | apply below_alloc | apply pw_below_drewN | apply below_drew1 | refine below_set ?_ GE101.out) | exact HB.out))⟩; clear BK101 HB hq_; have BK101 := n0_; have HB := n1_; clear n0_ n1_))) | ((with_reducible refine gate_callee (f := 21) rfl ?_); refine goesL_ (some 8) rfl rfl Tryz.func21 (by kernel_rfl) rfl #[.int .i64 a1] rfl (by (try simp only [List.map_toArray, List.map_cons, List.map_nil]); first | done | rfl | (simp only [List.length_drop, List.length_take]; rfl)) ?_; (with_reducible refine (clepsydraref01_Clip.calls a1 t103 _ A4.out).mono ?_); rintro e w' ⟨rfl, ⟨nd, rfl⟩⟩; refine ⟨_, rfl, ?_⟩; (try (rw [drewN_self w5]; generalize hq_ : World.drewN w5 _ = w5; have n0_ : Aside0 (w5.heap[gb101]? = some (.cells #[.int .i64 0, .int .i64 0] 25 (0, 0))) := ⟨by rw [← hq_]; exact (by (with_reducible repeat (first | refine blk_drewN ?_ _ | refine blk_drew ?_ | refine blk_alloc ?_ _)); exact BK101.out)⟩; have n1_ : Aside0 (Below w.heap.size w w5) := ⟨by rw [← hq_]; exact (by repeat (first | (with_reducible first | exact HB.out | apply below_alloc | apply pw_below_drewN | apply below_drew1 | refine below_set ?_ GE101.out) | exact HB.out))⟩; clear BK101 HB hq_; have BK101 := n0_; have HB := n1_; clear n0_ n1_)); have hcz6_0 : w5.cell? ⟨gb101, 0, none⟩ = some (.int .i64 0) := (blk_cell BK101.out 0).trans rfl; have hcz6_1 : w5.cell? ⟨gb101, 1, none⟩ = some (.int .i64 0) := (blk_cell BK101.out 1).trans rfl; have hfz6_0 := blk_frozen BK101.out 0; have hfz6_1 := blk_frozen BK101.out 1))
  refine bodyPost_ret (results_cell_row rfl _ _ gb101 25 #[.int .i64 t102, .int .i64 t103] (0, 0) _ rfl (by (with_reducible repeat (first | refine blk_drewN ?_ _ | refine blk_drew ?_ | refine blk_alloc ?_ _)); refine blk_put (cs := #[.int .i64 t102, .int .i64 0]) ?_ 1 _ rfl; (with_reducible repeat (first | refine blk_drewN ?_ _ | refine blk_drew ?_ | refine blk_alloc ?_ _)); refine blk_put (cs := #[.int .i64 0, .int .i64 0]) ?_ 0 _ rfl; (with_reducible repeat (first | refine blk_drewN ?_ _ | refine blk_drew ?_ | refine blk_alloc ?_ _)); exact BK101.out) Tryz.underlying25 rfl (by kernel_rfl)) rfl ?_
  exact ⟨by first | rfl | (simp [errW_none, errW_some] <;> rfl) | (simp [*, errW_none, errW_some] <;> rfl), by repeat (first | (with_reducible first | exact HB.out | apply below_alloc | apply pw_below_drewN | apply below_drew1 | refine below_set ?_ GE101.out) | exact HB.out)⟩
def clepsydraref07_Few.f (a0 : Int) (a1 : Int) : Option (Bool) := if a0 < 0 then (some true) else (if a0 > a1 then (some true) else (some (decide (a1 < (wrap64 ((wrap64 (2 * a0)) + 1))))))
set_option maxHeartbeats 8000000 in
set_option maxRecDepth 100000 in
theorem clepsydraref07_Few.calls (a0 : Int) (a1 : Int) (r : Bool) (w : World) (h : clepsydraref07_Few.f a0 a1 = some r) :
    Calls Tryz.prog 72 #[.int .i64 a0, .int .i64 a1] w fun e w' => e = .returned (.bool r) ∧ Drawn0 w w' := by
  have H : (if a0 < 0 then (some true) else (if a0 > a1 then (some true) else (some (decide (a1 < (wrap64 ((wrap64 (2 * a0)) + 1))))))) = some r := h
  clear h
  by_cases c3 : a0 < 0
  · rw [if_pos c3] at H
    have c3b0 : decide (a0 < 0) = true := decide_eq_true c3
    clear c3
    obtain rfl := Option.some.inj H
    go_enter Tryz.func72, Tryz.ntmps72
    go_wp2
    go_ret
    exact ⟨by first | rfl | (simp; done) | (simp [*]; done), by repeat (first | exact Drawn0.refl _ | apply Drawn0.step)⟩
  · rw [if_neg c3] at H
    have c3b0 : decide (a0 < 0) = false := decide_eq_false c3
    clear c3
    by_cases c4 : a0 > a1
    · rw [if_pos c4] at H
      have c4b0 : decide (a1 < a0) = true := decide_eq_true c4
      clear c4
      obtain rfl := Option.some.inj H
      go_enter Tryz.func72, Tryz.ntmps72
      go_wp2
      go_ret
      exact ⟨by first | rfl | (simp; done) | (simp [*]; done), by repeat (first | exact Drawn0.refl _ | apply Drawn0.step)⟩
    · rw [if_neg c4] at H
      have c4b0 : decide (a1 < a0) = false := decide_eq_false c4
      clear c4
      obtain rfl := Option.some.inj H
      go_enter Tryz.func72, Tryz.ntmps72
      go_wp2
      go_ret
      exact ⟨by first | rfl | (simp; done) | (simp [*]; done), by repeat (first | exact Drawn0.refl _ | apply Drawn0.step)⟩
mutual
def clepsydraref07_Least.j0 : Nat → Int → List Int → Bool → Option (Int × Bool)
  | 0, _, _, _ => none
  | k + 1, x0, x1, x19 => if x19 = true then (some (0, false)) else (clepsydraref07_Least.l0 k x0 x1 x1 (x1.length : Int) 0)
def clepsydraref07_Least.l0 : Nat → Int → List Int → List Int → Int → Int → Option (Int × Bool)
  | 0, _, _, _, _, _ => none
  | k + 1, x0, x1, x20, x21, x22 => if x22 < x21 then (if 0 ≤ x22 then (if x22 < (x20.length : Int) then (clepsydraref07_Least.l1 k x0 x1 (rd x20 x22) 0 0 x20 x21 x22 x1 (x1.length : Int) 0) else (none)) else (none)) else (some (0, false))
def clepsydraref07_Least.l1 : Nat → Int → List Int → Int → Int → Int → List Int → Int → Int → List Int → Int → Int → Option (Int × Bool)
  | 0, _, _, _, _, _, _, _, _, _, _, _ => none
  | k + 1, x0, x1, x7, x8, x9, x20, x21, x22, x26, x27, x28 => if x28 < x27 then (if 0 ≤ x28 then (if x28 < (x26.length : Int) then (if (rd x26 x28) < x7 then (if (rd x26 x28) ≤ x7 then (clepsydraref07_Least.l1 k x0 x1 x7 (wrap64 (x8 + 1)) (wrap64 (x9 + 1)) x20 x21 x22 x26 x27 (wrap64 (x28 + 1))) else (clepsydraref07_Least.l1 k x0 x1 x7 (wrap64 (x8 + 1)) x9 x20 x21 x22 x26 x27 (wrap64 (x28 + 1)))) else (if (rd x26 x28) ≤ x7 then (clepsydraref07_Least.l1 k x0 x1 x7 x8 (wrap64 (x9 + 1)) x20 x21 x22 x26 x27 (wrap64 (x28 + 1))) else (clepsydraref07_Least.l1 k x0 x1 x7 x8 x9 x20 x21 x22 x26 x27 (wrap64 (x28 + 1))))) else (none)) else (none)) else (if x8 ≤ x0 then (if x0 < x9 then (some (x7, true)) else (clepsydraref07_Least.l0 k x0 x1 x20 x21 (wrap64 (x22 + 1)))) else (clepsydraref07_Least.l0 k x0 x1 x20 x21 (wrap64 (x22 + 1))))
end
def clepsydraref07_Least.f (k : Nat) (a0 : Int) (l1 : List Int) : Option (Int × Bool) := if a0 < 0 then (clepsydraref07_Least.j0 k a0 l1 true) else (clepsydraref07_Least.j0 k a0 l1 (decide (a0 ≥ (l1.length : Int))))
theorem clepsydraref07_Least.mono_l : ∀ k, (∀ y0 y1 y2, LeO (clepsydraref07_Least.j0 k y0 y1 y2) (clepsydraref07_Least.j0 (k + 1) y0 y1 y2)) ∧ (∀ y0 y1 y2 y3 y4, LeO (clepsydraref07_Least.l0 k y0 y1 y2 y3 y4) (clepsydraref07_Least.l0 (k + 1) y0 y1 y2 y3 y4)) ∧ (∀ y0 y1 y2 y3 y4 y5 y6 y7 y8 y9 y10, LeO (clepsydraref07_Least.l1 k y0 y1 y2 y3 y4 y5 y6 y7 y8 y9 y10) (clepsydraref07_Least.l1 (k + 1) y0 y1 y2 y3 y4 y5 y6 y7 y8 y9 y10))
  | 0 => ⟨fun _ _ _ r h => by simp [clepsydraref07_Least.j0] at h, fun _ _ _ _ _ r h => by simp [clepsydraref07_Least.l0] at h, fun _ _ _ _ _ _ _ _ _ _ _ r h => by simp [clepsydraref07_Least.l1] at h⟩
  | k + 1 => by
    obtain ⟨ih0, ih1, ih2⟩ := clepsydraref07_Least.mono_l k
    refine ⟨?_, ?_, ?_⟩
    · intro y0 y1 y2
      unfold clepsydraref07_Least.j0
      repeat' first
      | (with_reducible exact ih0 _ _ _)
      | (with_reducible exact ih1 _ _ _ _ _)
      | (with_reducible exact ih2 _ _ _ _ _ _ _ _ _ _ _)
      | (with_reducible exact LeO.refl _)
      | (with_reducible exact LeO.none _)
      | (with_reducible refine LeO.ite ?_ ?_)
      | (with_reducible refine LeO.bind ?_ (fun _ => ?_))
      | exact ih0 _ _ _
      | exact ih1 _ _ _ _ _
      | exact ih2 _ _ _ _ _ _ _ _ _ _ _
      | exact LeO.none _
      | refine LeO.ite ?_ ?_
      | refine LeO.bind ?_ (fun _ => ?_)
    · intro y0 y1 y2 y3 y4
      unfold clepsydraref07_Least.l0
      repeat' first
      | (with_reducible exact ih0 _ _ _)
      | (with_reducible exact ih1 _ _ _ _ _)
      | (with_reducible exact ih2 _ _ _ _ _ _ _ _ _ _ _)
      | (with_reducible exact LeO.refl _)
      | (with_reducible exact LeO.none _)
      | (with_reducible refine LeO.ite ?_ ?_)
      | (with_reducible refine LeO.bind ?_ (fun _ => ?_))
      | exact ih0 _ _ _
      | exact ih1 _ _ _ _ _
      | exact ih2 _ _ _ _ _ _ _ _ _ _ _
      | exact LeO.none _
      | refine LeO.ite ?_ ?_
      | refine LeO.bind ?_ (fun _ => ?_)
    · intro y0 y1 y2 y3 y4 y5 y6 y7 y8 y9 y10
      unfold clepsydraref07_Least.l1
      repeat' first
      | (with_reducible exact ih0 _ _ _)
      | (with_reducible exact ih1 _ _ _ _ _)
      | (with_reducible exact ih2 _ _ _ _ _ _ _ _ _ _ _)
      | (with_reducible exact LeO.refl _)
      | (with_reducible exact LeO.none _)
      | (with_reducible refine LeO.ite ?_ ?_)
      | (with_reducible refine LeO.bind ?_ (fun _ => ?_))
      | exact ih0 _ _ _
      | exact ih1 _ _ _ _ _
      | exact ih2 _ _ _ _ _ _ _ _ _ _ _
      | exact LeO.none _
      | refine LeO.ite ?_ ?_
      | refine LeO.bind ?_ (fun _ => ?_)
theorem clepsydraref07_Least.mono : ∀ a0 a1 k, LeO (clepsydraref07_Least.f k a0 a1) (clepsydraref07_Least.f (k + 1) a0 a1) := by
  intro a0 a1 k
  obtain ⟨ih0, ih1, ih2⟩ := clepsydraref07_Least.mono_l k
  unfold clepsydraref07_Least.f
  repeat' first
      | (with_reducible exact ih0 _ _ _)
      | (with_reducible exact ih1 _ _ _ _ _)
      | (with_reducible exact ih2 _ _ _ _ _ _ _ _ _ _ _)
      | (with_reducible exact LeO.refl _)
      | (with_reducible exact LeO.none _)
      | (with_reducible refine LeO.ite ?_ ?_)
      | (with_reducible refine LeO.bind ?_ (fun _ => ?_))
      | exact ih0 _ _ _
      | exact ih1 _ _ _ _ _
      | exact ih2 _ _ _ _ _ _ _ _ _ _ _
      | exact LeO.none _
      | refine LeO.ite ?_ ?_
      | refine LeO.bind ?_ (fun _ => ?_)
set_option maxHeartbeats 8000000 in
set_option maxRecDepth 100000 in
theorem clepsydraref07_Least.calls (k : Nat) (a0 : Int) (A1 : Option Addr) (c1 : Nat) (l1 : List Int) (r1 : Int) (r2 : Bool) (w : World) (hr1 : Kd.C (Kd.int .i64) w A1 l1.length l1) (hc1 : l1.length ≤ c1) (h : clepsydraref07_Least.f k a0 l1 = some (r1, r2)) :
    Calls Tryz.prog 74 #[.int .i64 a0, .slice A1 l1.length c1] w fun e w' => e = .returned (.tuple #[.int .i64 r1, .bool r2]) ∧ Drawn0 w w' := by
  have HR1 := Aside0.mk hr1
  have HC1 := Aside0.mk hc1
  clear hr1 hc1
  have H : (if a0 < 0 then (clepsydraref07_Least.j0 k a0 l1 true) else (clepsydraref07_Least.j0 k a0 l1 (decide (a0 ≥ (l1.length : Int))))) = some (r1, r2) := h
  clear h
  have HC3 := Aside0.mk H
  clear H
  go_enter Tryz.func74, Tryz.ntmps74
  go_upto_region 1 with (fail)
  go_cut [19] (fun v19 wc => ∃ (kq : Nat) (x19_2 : Bool), v19 = .bool x19_2 ∧ Aside0 (clepsydraref07_Least.j0 kq a0 l1 x19_2 = some (r1, r2)) ∧ Aside0 (kq ≤ k) ∧ Drawn0 w wc)
  case first =>
    have H := HC3.out
    clear HC3
    by_cases c4 : a0 < 0
    · rw [if_pos c4] at H
      have c4b0 : decide (a0 < 0) = true := decide_eq_true c4
      clear c4
      (first | rw [c4b0] | (simp only [i64_w, i32_w]; rw [c4b0]) | skip)
      have H' := Aside0.mk H
      clear H
      go_wp2
      go_meet
      case rel => exact ⟨_, (true), (by first | rfl | (simp; done) | (simp [*]; done)), H', ⟨by first | omega | exact Nat.le_refl _⟩, by repeat (first | exact Drawn0.refl _ | apply Drawn0.step)⟩
    · rw [if_neg c4] at H
      have c4b0 : decide (a0 < 0) = false := decide_eq_false c4
      clear c4
      (first | rw [c4b0] | (simp only [i64_w, i32_w]; rw [c4b0]) | skip)
      have H' := Aside0.mk H
      clear H
      go_wp2
      go_meet
      case rel => exact ⟨_, (decide (a0 ≥ (l1.length : Int))), (by first | rfl | (simp; done) | (simp [*]; done)), H', ⟨by first | omega | exact Nat.le_refl _⟩, by repeat (first | exact Drawn0.refl _ | apply Drawn0.step)⟩
  case rest =>
    clear HC3
    try clear c1
    try clear p2
    try clear c4
    try clear c4b0
    obtain ⟨kq, x19_2, rfl, HA, HJ2, ⟨mc2, rfl⟩⟩ := hcut
    cases kq with
    | zero => exact absurd HA.out (by simp [clepsydraref07_Least.j0])
    | succ kj2 =>
      have H := HA.out
      clear HA
      simp only [clepsydraref07_Least.j0] at H
      by_cases c5 : x19_2 = true
      · subst c5
        have H1 : (some (0, false)) = some (r1, r2) := by rw [if_pos rfl] at H; exact H
        clear H
        have H := H1
        clear H1
        simp only [Option.some.injEq, Prod.mk.injEq] at H
        obtain ⟨rfl, rfl⟩ := H
        go_wp2
        go_ret2
        exact ⟨by first | rfl | (simp; done) | (simp [*]; done), by repeat (first | exact Drawn0.refl _ | apply Drawn0.step)⟩
      · replace c5 := Bool.eq_false_iff.mpr c5
        subst c5
        have H1 : (clepsydraref07_Least.l0 kj2 a0 l1 l1 (l1.length : Int) 0) = some (r1, r2) := by rw [if_neg (show ¬ (false = true) by decide)] at H; exact H
        clear H
        have H := H1
        clear H1
        have H' := Aside0.mk H
        clear H
        go_wp2
        go_loopg [22] kj2 (fun kq v22 w' => ∃ (x22_2 : Int), v22 = .int .i64 x22_2 ∧ Aside0 (clepsydraref07_Least.l0 kq a0 l1 l1 (l1.length : Int) x22_2 = some (r1, r2)) ∧ Aside0 (kq ≤ kj2) ∧ Drawn0 w w')
        case atStart => exact ⟨(0), (by first | rfl | (simp; done) | (simp [*]; done)), H', ⟨Nat.le_refl _⟩, by repeat (first | exact Drawn0.refl _ | apply Drawn0.step)⟩
        case round =>
          clear H'
          try clear c1
          try clear c2
          try clear p2
          try clear c4
          try clear c4b0
          try clear c5
          try clear p2
          obtain ⟨x22_2, rfl, HA, HK2, ⟨m2, rfl⟩⟩ := hrel
          cases gk with
          | zero => exact absurd HA.out (by simp [clepsydraref07_Least.l0])
          | succ k2 =>
            have H := HA.out
            clear HA
            simp only [clepsydraref07_Least.l0] at H
            by_cases c6 : x22_2 < (l1.length : Int)
            · rw [if_pos c6] at H
              have c6b0 : decide (x22_2 < (l1.length : Int)) = true := decide_eq_true c6
              clear c6
              by_cases c7 : 0 ≤ x22_2
              · rw [if_pos c7] at H
                have c7b0 : decide (0 ≤ x22_2) = true := decide_eq_true c7
                clear c7
                by_cases c8 : x22_2 < (l1.length : Int)
                · rw [if_pos c8] at H
                  have c8b0 : decide (x22_2 < (l1.length : Int)) = true := decide_eq_true c8
                  clear c8
                  have H' := Aside0.mk H
                  clear H
                  have p104 : 0 ≤ (x22_2 : Int) := of_decide_eq_true (by first | (with_reducible assumption) | assumption)
                  have q104 : x22_2 < (l1.length : Int) := of_decide_eq_true (by first | (with_reducible assumption) | assumption)
                  obtain ⟨ad104, e104, hx104_0⟩ := Kd.at_int HR1.out x22_2 p104 q104
                  cases e104
                  replace p104 := eq_true p104
                  replace q104 := eq_true q104
                  go_wp2
                  go_loopg [8, 9, 28] k2 (fun kq v8 v9 v28 w' => ∃ (x8_3 : Int) (x9_3 : Int) (x28_3 : Int), v8 = .int .i64 x8_3 ∧ v9 = .int .i64 x9_3 ∧ v28 = .int .i64 x28_3 ∧ Aside0 (clepsydraref07_Least.l1 kq a0 l1 (rd l1 x22_2) x8_3 x9_3 l1 (l1.length : Int) x22_2 l1 (l1.length : Int) x28_3 = some (r1, r2)) ∧ Aside0 (kq ≤ k2) ∧ Drawn0 w w')
                  case atStart => exact ⟨(0), (0), (0), (by first | rfl | (simp; done) | (simp [*]; done)), (by first | rfl | (simp; done) | (simp [*]; done)), (by first | rfl | (simp; done) | (simp [*]; done)), H', ⟨Nat.le_refl _⟩, by repeat (first | exact Drawn0.refl _ | apply Drawn0.step)⟩
                  case round =>
                    clear H'
                    try clear c1
                    try clear p1
                    try clear q1
                    try clear hx1
                    try clear c2
                    try clear p2
                    try clear c4
                    try clear c4b0
                    try clear c5
                    try clear c6
                    try clear c6b0
                    try clear c7
                    try clear c7b0
                    try clear c8
                    try clear c8b0
                    try clear hx104_0
                    try clear p104
                    try clear p2
                    try clear q104
                    obtain ⟨x8_3, x9_3, x28_3, rfl, rfl, rfl, HA, HK3, ⟨m3, rfl⟩⟩ := hrel
                    cases gk with
                    | zero => exact absurd HA.out (by simp [clepsydraref07_Least.l1])
                    | succ k3 =>
                      have H := HA.out
                      clear HA
                      simp only [clepsydraref07_Least.l1] at H
                      by_cases c9 : x28_3 < (l1.length : Int)
                      · rw [if_pos c9] at H
                        have c9b0 : decide (x28_3 < (l1.length : Int)) = true := decide_eq_true c9
                        clear c9
                        by_cases c10 : 0 ≤ x28_3
                        · rw [if_pos c10] at H
                          have c10b0 : decide (0 ≤ x28_3) = true := decide_eq_true c10
                          clear c10
                          by_cases c11 : x28_3 < (l1.length : Int)
                          · rw [if_pos c11] at H
                            have c11b0 : decide (x28_3 < (l1.length : Int)) = true := decide_eq_true c11
                            clear c11
                            by_cases c12 : (rd l1 x28_3) < (rd l1 x22_2)
                            · rw [if_pos c12] at H
                              have c12b0 : decide ((rd l1 x28_3) < (rd l1 x22_2)) = true := decide_eq_true c12
                              clear c12
                              by_cases c13 : (rd l1 x28_3) ≤ (rd l1 x22_2)
                              · rw [if_pos c13] at H
                                have c13b0 : decide ((rd l1 x28_3) ≤ (rd l1 x22_2)) = true := decide_eq_true c13
                                clear c13
                                have H' := Aside0.mk H
                                clear H
                                have p105 : 0 ≤ (x28_3 : Int) := of_decide_eq_true (by first | (with_reducible assumption) | assumption)
                                have q105 : x28_3 < (l1.length : Int) := of_decide_eq_true (by first | (with_reducible assumption) | assumption)
                                obtain ⟨ad105, e105, hx105_0⟩ := Kd.at_int HR1.out x28_3 p105 q105
                                obtain rfl : ad104 = ad105 := (by injection e105)
                                replace p105 := eq_true p105
                                replace q105 := eq_true q105
                                go_wp2
                                go_roundg k3
                                case measure => have := HJ2.out; have := HK2.out; have := HK3.out; omega
                                case rel => exact ⟨(wrap64 (x8_3 + 1)), (wrap64 (x9_3 + 1)), (wrap64 (x28_3 + 1)), (by first | rfl | (simp; done) | (simp [*]; done)), (by first | rfl | (simp; done) | (simp [*]; done)), (by first | rfl | (simp; done) | (simp [*]; done)), H', ⟨by have := HJ2.out; have := HK2.out; have := HK3.out; omega⟩, by repeat (first | exact Drawn0.refl _ | apply Drawn0.step)⟩
                              · rw [if_neg c13] at H
                                have c13b0 : decide ((rd l1 x28_3) ≤ (rd l1 x22_2)) = false := decide_eq_false c13
                                clear c13
                                have H' := Aside0.mk H
                                clear H
                                have p105 : 0 ≤ (x28_3 : Int) := of_decide_eq_true (by first | (with_reducible assumption) | assumption)
                                have q105 : x28_3 < (l1.length : Int) := of_decide_eq_true (by first | (with_reducible assumption) | assumption)
                                obtain ⟨ad105, e105, hx105_0⟩ := Kd.at_int HR1.out x28_3 p105 q105
                                obtain rfl : ad104 = ad105 := (by injection e105)
                                replace p105 := eq_true p105
                                replace q105 := eq_true q105
                                go_wp2
                                go_roundg k3
                                case measure => have := HJ2.out; have := HK2.out; have := HK3.out; omega
                                case rel => exact ⟨(wrap64 (x8_3 + 1)), (x9_3), (wrap64 (x28_3 + 1)), (by first | rfl | (simp; done) | (simp [*]; done)), (by first | rfl | (simp; done) | (simp [*]; done)), (by first | rfl | (simp; done) | (simp [*]; done)), H', ⟨by have := HJ2.out; have := HK2.out; have := HK3.out; omega⟩, by repeat (first | exact Drawn0.refl _ | apply Drawn0.step)⟩
                            · rw [if_neg c12] at H
                              have c12b0 : decide ((rd l1 x28_3) < (rd l1 x22_2)) = false := decide_eq_false c12
                              clear c12
                              by_cases c14 : (rd l1 x28_3) ≤ (rd l1 x22_2)
                              · rw [if_pos c14] at H
                                have c14b0 : decide ((rd l1 x28_3) ≤ (rd l1 x22_2)) = true := decide_eq_true c14
                                clear c14
                                have H' := Aside0.mk H
                                clear H
                                have p105 : 0 ≤ (x28_3 : Int) := of_decide_eq_true (by first | (with_reducible assumption) | assumption)
                                have q105 : x28_3 < (l1.length : Int) := of_decide_eq_true (by first | (with_reducible assumption) | assumption)
                                obtain ⟨ad105, e105, hx105_0⟩ := Kd.at_int HR1.out x28_3 p105 q105
                                obtain rfl : ad104 = ad105 := (by injection e105)
                                replace p105 := eq_true p105
                                replace q105 := eq_true q105
                                go_wp2
                                go_roundg k3
                                case measure => have := HJ2.out; have := HK2.out; have := HK3.out; omega
                                case rel => exact ⟨(x8_3), (wrap64 (x9_3 + 1)), (wrap64 (x28_3 + 1)), (by first | rfl | (simp; done) | (simp [*]; done)), (by first | rfl | (simp; done) | (simp [*]; done)), (by first | rfl | (simp; done) | (simp [*]; done)), H', ⟨by have := HJ2.out; have := HK2.out; have := HK3.out; omega⟩, by repeat (first | exact Drawn0.refl _ | apply Drawn0.step)⟩
                              · rw [if_neg c14] at H
                                have c14b0 : decide ((rd l1 x28_3) ≤ (rd l1 x22_2)) = false := decide_eq_false c14
                                clear c14
                                have H' := Aside0.mk H
                                clear H
                                have p105 : 0 ≤ (x28_3 : Int) := of_decide_eq_true (by first | (with_reducible assumption) | assumption)
                                have q105 : x28_3 < (l1.length : Int) := of_decide_eq_true (by first | (with_reducible assumption) | assumption)
                                obtain ⟨ad105, e105, hx105_0⟩ := Kd.at_int HR1.out x28_3 p105 q105
                                obtain rfl : ad104 = ad105 := (by injection e105)
                                replace p105 := eq_true p105
                                replace q105 := eq_true q105
                                go_wp2
                                go_roundg k3
                                case measure => have := HJ2.out; have := HK2.out; have := HK3.out; omega
                                case rel => exact ⟨(x8_3), (x9_3), (wrap64 (x28_3 + 1)), (by first | rfl | (simp; done) | (simp [*]; done)), (by first | rfl | (simp; done) | (simp [*]; done)), (by first | rfl | (simp; done) | (simp [*]; done)), H', ⟨by have := HJ2.out; have := HK2.out; have := HK3.out; omega⟩, by repeat (first | exact Drawn0.refl _ | apply Drawn0.step)⟩
                          · rw [if_neg c11] at H
                            exact absurd H (by simp)
                        · rw [if_neg c10] at H
                          exact absurd H (by simp)
                      · rw [if_neg c9] at H
                        have c9b0 : decide (x28_3 < (l1.length : Int)) = false := decide_eq_false c9
                        clear c9
                        by_cases c15 : x8_3 ≤ a0
                        · rw [if_pos c15] at H
                          have c15b0 : decide (x8_3 ≤ a0) = true := decide_eq_true c15
                          clear c15
                          by_cases c16 : a0 < x9_3
                          · rw [if_pos c16] at H
                            have c16b0 : decide (a0 < x9_3) = true := decide_eq_true c16
                            clear c16
                            simp only [Option.some.injEq, Prod.mk.injEq] at H
                            obtain ⟨rfl, rfl⟩ := H
                            go_wp2
                            go_ret2
                            exact ⟨by first | rfl | (simp; done) | (simp [*]; done), by repeat (first | exact Drawn0.refl _ | apply Drawn0.step)⟩
                          · rw [if_neg c16] at H
                            have c16b0 : decide (a0 < x9_3) = false := decide_eq_false c16
                            clear c16
                            have H' := Aside0.mk H
                            clear H
                            go_wp2
                            go_roundg k3
                            case measure => have := HJ2.out; have := HK2.out; have := HK3.out; omega
                            case rel => exact ⟨(wrap64 (x22_2 + 1)), (by first | rfl | (simp; done) | (simp [*]; done)), H', ⟨by have := HJ2.out; have := HK2.out; have := HK3.out; omega⟩, by repeat (first | exact Drawn0.refl _ | apply Drawn0.step)⟩
                        · rw [if_neg c15] at H
                          have c15b0 : decide (x8_3 ≤ a0) = false := decide_eq_false c15
                          clear c15
                          have H' := Aside0.mk H
                          clear H
                          go_wp2
                          go_roundg k3
                          case measure => have := HJ2.out; have := HK2.out; have := HK3.out; omega
                          case rel => exact ⟨(wrap64 (x22_2 + 1)), (by first | rfl | (simp; done) | (simp [*]; done)), H', ⟨by have := HJ2.out; have := HK2.out; have := HK3.out; omega⟩, by repeat (first | exact Drawn0.refl _ | apply Drawn0.step)⟩
                · rw [if_neg c8] at H
                  exact absurd H (by simp)
              · rw [if_neg c7] at H
                exact absurd H (by simp)
            · rw [if_neg c6] at H
              have c6b0 : decide (x22_2 < (l1.length : Int)) = false := decide_eq_false c6
              clear c6
              simp only [Option.some.injEq, Prod.mk.injEq] at H
              obtain ⟨rfl, rfl⟩ := H
              go_wp2
              go_ret2
              exact ⟨by first | rfl | (simp; done) | (simp [*]; done), by repeat (first | exact Drawn0.refl _ | apply Drawn0.step)⟩
def clepsydraref07_Most.f (k : Nat) (a0 : Int) (l1 : List Int) : Option (Int × Bool) := if a0 < 0 then (some (0, false)) else (if a0 ≥ (l1.length : Int) then (some (0, false)) else ((clepsydraref07_Least.f k (wrap64 ((wrap64 ((l1.length : Int) - 1)) - a0)) l1).bind fun bt106 => (some (bt106.1, bt106.2))))
theorem clepsydraref07_Most.mono : ∀ a0 a1 k, LeO (clepsydraref07_Most.f k a0 a1) (clepsydraref07_Most.f (k + 1) a0 a1) := by
  intro a0 a1 k
  unfold clepsydraref07_Most.f
  repeat' first
      | (with_reducible exact clepsydraref07_Least.mono _ _ _)
      | (with_reducible exact LeO.refl _)
      | (with_reducible exact LeO.none _)
      | (with_reducible refine LeO.ite ?_ ?_)
      | (with_reducible refine LeO.bind ?_ (fun _ => ?_))
      | exact clepsydraref07_Least.mono _ _ _
      | exact LeO.none _
      | refine LeO.ite ?_ ?_
      | refine LeO.bind ?_ (fun _ => ?_)
set_option maxHeartbeats 8000000 in
set_option maxRecDepth 100000 in
theorem clepsydraref07_Most.calls (k : Nat) (a0 : Int) (A1 : Option Addr) (c1 : Nat) (l1 : List Int) (r1 : Int) (r2 : Bool) (w : World) (hr1 : Kd.C (Kd.int .i64) w A1 l1.length l1) (hc1 : l1.length ≤ c1) (h : clepsydraref07_Most.f k a0 l1 = some (r1, r2)) :
    Calls Tryz.prog 73 #[.int .i64 a0, .slice A1 l1.length c1] w fun e w' => e = .returned (.tuple #[.int .i64 r1, .bool r2]) ∧ Drawn0 w w' := by
  have HR1 := Aside0.mk hr1
  have HC1 := Aside0.mk hc1
  clear hr1 hc1
  have H : (if a0 < 0 then (some (0, false)) else (if a0 ≥ (l1.length : Int) then (some (0, false)) else ((clepsydraref07_Least.f k (wrap64 ((wrap64 ((l1.length : Int) - 1)) - a0)) l1).bind fun bt106 => (some (bt106.1, bt106.2))))) = some (r1, r2) := h
  clear h
  by_cases c3 : a0 < 0
  · rw [if_pos c3] at H
    have c3b0 : decide (a0 < 0) = true := decide_eq_true c3
    clear c3
    simp only [Option.some.injEq, Prod.mk.injEq] at H
    obtain ⟨rfl, rfl⟩ := H
    go_enter Tryz.func73, Tryz.ntmps73
    go_wp2
    go_ret2
    exact ⟨by first | rfl | (simp; done) | (simp [*]; done), by repeat (first | exact Drawn0.refl _ | apply Drawn0.step)⟩
  · rw [if_neg c3] at H
    have c3b0 : decide (a0 < 0) = false := decide_eq_false c3
    clear c3
    by_cases c4 : a0 ≥ (l1.length : Int)
    · rw [if_pos c4] at H
      have c4b0 : decide ((l1.length : Int) ≤ a0) = true := decide_eq_true c4
      clear c4
      simp only [Option.some.injEq, Prod.mk.injEq] at H
      obtain ⟨rfl, rfl⟩ := H
      go_enter Tryz.func73, Tryz.ntmps73
      go_wp2
      go_ret2
      exact ⟨by first | rfl | (simp; done) | (simp [*]; done), by repeat (first | exact Drawn0.refl _ | apply Drawn0.step)⟩
    · rw [if_neg c4] at H
      have c4b0 : decide ((l1.length : Int) ≤ a0) = false := decide_eq_false c4
      clear c4
      replace H := Option.bind_eq_some_iff.mp H
      obtain ⟨⟨t106, t107⟩, A50, H⟩ := H
      replace H : (some (t106, t107)) = some (r1, r2) := H
      have A5 := Aside0.mk A50
      clear A50
      simp only [Option.some.injEq, Prod.mk.injEq] at H
      obtain ⟨rfl, rfl⟩ := H
      go_enter Tryz.func73, Tryz.ntmps73
      go_wp2_with (first | ((with_reducible refine gate_callee (f := 74) rfl ?_); refine goesL_ (some 20) rfl rfl Tryz.func74 (by kernel_rfl) rfl #[.int .i64 (wrap64 ((wrap64 ((l1.length : Int) - 1)) - a0)), .slice A1 l1.length c1] rfl (by (try simp only [List.map_toArray, List.map_cons, List.map_nil]); first | done | rfl | (simp only [List.length_drop, List.length_take]; rfl)) ?_; (with_reducible refine (clepsydraref07_Least.calls k (wrap64 ((wrap64 ((l1.length : Int) - 1)) - a0)) _ _ l1 t106 t107 _ ?side1 ?side2 A5.out).mono ?_); (case side1 => repeat (first | exact HR1.out | (with_reducible refine Kd.C_alloc ?_ _) | (with_reducible refine Kd.C_drewN ?_ _) | (with_reducible refine Kd.C_drew ?_))); (case side2 => exact HC1.out); rintro e w' ⟨rfl, ⟨nd, rfl⟩⟩; refine ⟨_, rfl, ?_⟩))
      go_ret2
      exact ⟨by first | rfl | (simp; done) | (simp [*]; done), by repeat (first | exact Drawn0.refl _ | apply Drawn0.step)⟩
def clepsydraref07_Fuse.l0 : Nat → Int → List Int → List Int → List (S25) → Int → Int → Option (Int × Int × Bool)
  | 0, _, _, _, _, _, _ => none
  | k + 1, x0, x6, x7, x19, x20, x21 => if x21 < x20 then (if 0 ≤ x21 then (if x21 < (x19.length : Int) then (if x6.length < 17592186044416 then (if x7.length < 17592186044416 then (clepsydraref07_Fuse.l0 k x0 (x6 ++ [(rd_T25 x19 x21).f0]) (x7 ++ [(rd_T25 x19 x21).f1]) x19 x20 (wrap64 (x21 + 1))) else (none)) else (none)) else (none)) else (none)) else ((clepsydraref07_Most.f k x0 x6).bind fun bt118 => ((clepsydraref07_Least.f k x0 x7).bind fun bt120 => (if bt118.1 > bt120.1 then (some (0, 0, false)) else ((clepsydraref03_Of.f bt118.1 bt120.1).bind fun bt122 => (some (bt122.1, bt122.2, true))))))
def clepsydraref07_Fuse.f (k : Nat) (a0 : Int) (l1 : List (S25)) : Option (Int × Int × Bool) := (clepsydraref07_Few.f a0 (l1.length : Int)).bind fun t109 => (if t109 = true then (some (0, 0, false)) else (clepsydraref07_Fuse.l0 k a0 ([] : List Int) ([] : List Int) l1 (l1.length : Int) 0))
theorem clepsydraref07_Fuse.mono_l : ∀ k, (∀ y0 y1 y2 y3 y4 y5, LeO (clepsydraref07_Fuse.l0 k y0 y1 y2 y3 y4 y5) (clepsydraref07_Fuse.l0 (k + 1) y0 y1 y2 y3 y4 y5))
  | 0 => fun _ _ _ _ _ _ r h => by simp [clepsydraref07_Fuse.l0] at h
  | k + 1 => by
    have ih0 := clepsydraref07_Fuse.mono_l k
    · intro y0 y1 y2 y3 y4 y5
      unfold clepsydraref07_Fuse.l0
      repeat' first
      | (with_reducible exact ih0 _ _ _ _ _ _)
      | (with_reducible exact clepsydraref07_Least.mono _ _ _)
      | (with_reducible exact clepsydraref07_Most.mono _ _ _)
      | (with_reducible exact LeO.refl _)
      | (with_reducible exact LeO.none _)
      | (with_reducible refine LeO.ite ?_ ?_)
      | (with_reducible refine LeO.bind ?_ (fun _ => ?_))
      | exact ih0 _ _ _ _ _ _
      | exact clepsydraref07_Least.mono _ _ _
      | exact clepsydraref07_Most.mono _ _ _
      | exact LeO.none _
      | refine LeO.ite ?_ ?_
      | refine LeO.bind ?_ (fun _ => ?_)
theorem clepsydraref07_Fuse.mono : ∀ a0 a1 k, LeO (clepsydraref07_Fuse.f k a0 a1) (clepsydraref07_Fuse.f (k + 1) a0 a1) := by
  intro a0 a1 k
  have ih0 := clepsydraref07_Fuse.mono_l k
  unfold clepsydraref07_Fuse.f
  repeat' first
      | (with_reducible exact ih0 _ _ _ _ _ _)
      | (with_reducible exact clepsydraref07_Least.mono _ _ _)
      | (with_reducible exact clepsydraref07_Most.mono _ _ _)
      | (with_reducible exact LeO.refl _)
      | (with_reducible exact LeO.none _)
      | (with_reducible refine LeO.ite ?_ ?_)
      | (with_reducible refine LeO.bind ?_ (fun _ => ?_))
      | exact ih0 _ _ _ _ _ _
      | exact clepsydraref07_Least.mono _ _ _
      | exact clepsydraref07_Most.mono _ _ _
      | exact LeO.none _
      | refine LeO.ite ?_ ?_
      | refine LeO.bind ?_ (fun _ => ?_)
set_option maxHeartbeats 8000000 in
set_option maxRecDepth 100000 in
theorem clepsydraref07_Fuse.calls (k : Nat) (a0 : Int) (A1 : Option Addr) (c1 : Nat) (l1 : List (S25)) (r1 : Int) (r2 : Int) (r3 : Bool) (w : World) (hr1 : Kd.C k25 w A1 l1.length l1) (hc1 : l1.length ≤ c1) (h : clepsydraref07_Fuse.f k a0 l1 = some (r1, r2, r3)) :
    Calls Tryz.prog 38 #[.int .i64 a0, .slice A1 l1.length c1] w fun e w' => e = .returned (.tuple #[.agg #[.int .i64 r1, .int .i64 r2], .bool r3]) ∧ Below w.heap.size w w' := by
  have hu25 := Tryz.underlying25
  have HR1 := Aside0.mk hr1
  have HC1 := Aside0.mk hc1
  clear hr1 hc1
  have HB := Aside0.mk (Below.refl w.heap.size w)
  have H : ((clepsydraref07_Few.f a0 (l1.length : Int)).bind fun t109 => (if t109 = true then (some (0, 0, false)) else (clepsydraref07_Fuse.l0 k a0 ([] : List Int) ([] : List Int) l1 (l1.length : Int) 0))) = some (r1, r2, r3) := h
  clear h
  replace H := Option.bind_eq_some_iff.mp H
  obtain ⟨t109, A30, H⟩ := H
  replace H : (if t109 = true then (some (0, 0, false)) else (clepsydraref07_Fuse.l0 k a0 ([] : List Int) ([] : List Int) l1 (l1.length : Int) 0)) = some (r1, r2, r3) := H
  have A3 := Aside0.mk A30
  clear A30
  by_cases c4 : t109 = true
  · subst c4
    have H1 : (some (0, 0, false)) = some (r1, r2, r3) := by rw [if_pos rfl] at H; exact H
    clear H
    have H := H1
    clear H1
    simp only [Option.some.injEq, Prod.mk.injEq] at H
    obtain ⟨rfl, rfl, rfl⟩ := H
    go_enter Tryz.func38, Tryz.ntmps38
    go_wp2_with (first | ((with_reducible refine gate_dst (N := 4) rfl ?_); refine box_event ?hg (N := 4) ?hd (cs := #[.int .i64 0, .int .i64 0]) (t := 25) ?hr ?_; (case hd => rfl); (case hg => rfl); (case hr => first | (go_simp; done) | (go_simp; rfl)); intro gb108 hg w5 hbox hb; have n0_ := Aside0.mk (below_step (by repeat (first | (with_reducible first | exact HB.out | apply below_alloc | apply pw_below_drewN | apply below_drew1) | exact HB.out)) hb); have n1_ := Aside0.mk (hbox); have n2_ := Aside0.mk ((by rw [hg]; exact (below_size (by repeat (first | (with_reducible first | exact HB.out | apply below_alloc | apply pw_below_drewN | apply below_drew1) | exact HB.out))) : w.heap.size ≤ gb108)); have n3_ := Aside0.mk ((by rw [hg]; exact (below_size (by repeat (first | (with_reducible first | exact HB.out | apply below_alloc | apply pw_below_drewN | apply below_drew1) | exact HB.out))) : w.heap.size ≤ gb108)); clear HB; have HB := n0_; have BK108 := n1_; have GW108 := n2_; have GE108 := n3_; clear n0_ n1_ n2_ n3_; clear hb hbox hg) | ((with_reducible refine gate_callee (f := 72) rfl ?_); refine goesL_ (some 17) rfl rfl Tryz.func72 (by kernel_rfl) rfl #[.int .i64 a0, .int .i64 (l1.length : Int)] rfl (by (try simp only [List.map_toArray, List.map_cons, List.map_nil]); first | done | rfl | (simp only [List.length_drop, List.length_take]; rfl)) ?_; (with_reducible refine (clepsydraref07_Few.calls a0 (l1.length : Int) true _ A3.out).mono ?_); rintro e w' ⟨rfl, ⟨nd, rfl⟩⟩; refine ⟨_, rfl, ?_⟩; (try (rw [drewN_self w5]; generalize hq_ : World.drewN w5 _ = w5; have n0_ : Aside0 (w5.heap[gb108]? = some (.cells #[.int .i64 0, .int .i64 0] 25 (0, 0))) := ⟨by rw [← hq_]; exact (by (with_reducible repeat (first | refine blk_drewN ?_ _ | refine blk_drew ?_ | refine blk_alloc ?_ _)); exact BK108.out)⟩; have n1_ : Aside0 (Below w.heap.size w w5) := ⟨by rw [← hq_]; exact (by repeat (first | (with_reducible first | exact HB.out | apply below_alloc | apply pw_below_drewN | apply below_drew1 | refine below_set ?_ GE108.out) | exact HB.out))⟩; clear BK108 HB hq_; have BK108 := n0_; have HB := n1_; clear n0_ n1_)); have hcz6_0 : w5.cell? ⟨gb108, 0, none⟩ = some (.int .i64 0) := (blk_cell BK108.out 0).trans rfl; have hcz6_1 : w5.cell? ⟨gb108, 1, none⟩ = some (.int .i64 0) := (blk_cell BK108.out 1).trans rfl; have hfz6_0 := blk_frozen BK108.out 0; have hfz6_1 := blk_frozen BK108.out 1))
    refine bodyPost_ret (results_ct rfl _ _ gb108 25 #[.int .i64 0, .int .i64 0] (0, 0) _ rfl (by (with_reducible repeat (first | refine blk_drewN ?_ _ | refine blk_drew ?_ | refine blk_alloc ?_ _)); refine blk_put (cs := #[.int .i64 0, .int .i64 0]) ?_ 1 _ rfl; (with_reducible repeat (first | refine blk_drewN ?_ _ | refine blk_drew ?_ | refine blk_alloc ?_ _)); refine blk_put (cs := #[.int .i64 0, .int .i64 0]) ?_ 0 _ rfl; (with_reducible repeat (first | refine blk_drewN ?_ _ | refine blk_drew ?_ | refine blk_alloc ?_ _)); exact BK108.out) Tryz.underlying25 rfl (by kernel_rfl)) rfl ?_
    exact ⟨by first | rfl | (simp [errW_none, errW_some] <;> rfl) | (simp [*, errW_none, errW_some] <;> rfl), by repeat (first | (with_reducible first | exact HB.out | apply below_alloc | apply pw_below_drewN | apply below_drew1 | refine below_set ?_ GE108.out) | exact HB.out)⟩
  · replace c4 := Bool.eq_false_iff.mpr c4
    subst c4
    have H1 : (clepsydraref07_Fuse.l0 k a0 ([] : List Int) ([] : List Int) l1 (l1.length : Int) 0) = some (r1, r2, r3) := by rw [if_neg (show ¬ (false = true) by decide)] at H; exact H
    clear H
    have H := H1
    clear H1
    have H' := Aside0.mk H
    clear H
    go_enter Tryz.func38, Tryz.ntmps38
    go_wp2_with (first | ((with_reducible refine gate_dst (N := 4) rfl ?_); refine box_event ?hg (N := 4) ?hd (cs := #[.int .i64 0, .int .i64 0]) (t := 25) ?hr ?_; (case hd => rfl); (case hg => rfl); (case hr => first | (go_simp; done) | (go_simp; rfl)); intro gb108 hg w7 hbox hb; have n0_ := Aside0.mk (below_step (by repeat (first | (with_reducible first | exact HB.out | apply below_alloc | apply pw_below_drewN | apply below_drew1) | exact HB.out)) hb); have n1_ := Aside0.mk (hbox); have n2_ := Aside0.mk ((by rw [hg]; exact (below_size (by repeat (first | (with_reducible first | exact HB.out | apply below_alloc | apply pw_below_drewN | apply below_drew1) | exact HB.out))) : w.heap.size ≤ gb108)); have n3_ := Aside0.mk ((by rw [hg]; exact (below_size (by repeat (first | (with_reducible first | exact HB.out | apply below_alloc | apply pw_below_drewN | apply below_drew1) | exact HB.out))) : w.heap.size ≤ gb108)); clear HB; have HB := n0_; have BK108 := n1_; have GW108 := n2_; have GE108 := n3_; clear n0_ n1_ n2_ n3_; clear hb hbox hg) | ((with_reducible refine gate_callee (f := 72) rfl ?_); refine goesL_ (some 17) rfl rfl Tryz.func72 (by kernel_rfl) rfl #[.int .i64 a0, .int .i64 (l1.length : Int)] rfl (by (try simp only [List.map_toArray, List.map_cons, List.map_nil]); first | done | rfl | (simp only [List.length_drop, List.length_take]; rfl)) ?_; (with_reducible refine (clepsydraref07_Few.calls a0 (l1.length : Int) false _ A3.out).mono ?_); rintro e w' ⟨rfl, ⟨nd, rfl⟩⟩; refine ⟨_, rfl, ?_⟩))
    go_loopg [6, 7, 21] k (fun kq v6 v7 v21 w' => ∃ (x6_1 : List Int) (x7_1 : List Int) (x21_1 : Int), v21 = .int .i64 x21_1 ∧ Aside0 (clepsydraref07_Fuse.l0 kq a0 x6_1 x7_1 l1 (l1.length : Int) x21_1 = some (r1, r2, r3)) ∧ Aside0 (kq ≤ k) ∧ Aside0 (Kd.R (Kd.int .i64) 3 w' w.heap.size (fun k_ => some k_ ≠ (v7 : Value).ownBlock) v6 x6_1) ∧ Aside0 (Kd.R (Kd.int .i64) 3 w' w.heap.size (fun k_ => some k_ ≠ (v6 : Value).ownBlock) v7 x7_1) ∧ Aside0 (w'.heap[gb108]? = some (.cells #[.int .i64 0, .int .i64 0] 25 (0, 0))) ∧ Aside0 (Below w.heap.size w w'))
    case atStart => exact ⟨(([] : List Int)), (([] : List Int)), (0), (by first | rfl | (simp; done) | (simp [*]; done)), H', ⟨Nat.le_refl _⟩, ⟨by first | exact Kd.R_nil _ _ _ _ _ | exact Kd.N_nil _ _ _ _ _ | exact Kd.V_nil _ _ _ _ _ | exact Kd.Q_nil _ _ _ _ _ | exact Kd.S_nil _ _ _ _ _⟩, ⟨by first | exact Kd.R_nil _ _ _ _ _ | exact Kd.N_nil _ _ _ _ _ | exact Kd.V_nil _ _ _ _ _ | exact Kd.Q_nil _ _ _ _ _ | exact Kd.S_nil _ _ _ _ _⟩, ⟨by (with_reducible repeat (first | refine blk_drewN ?_ _ | refine blk_drew ?_ | refine blk_alloc ?_ _)); exact BK108.out⟩, ⟨by repeat (first | (with_reducible first | exact HB.out | apply below_alloc | apply pw_below_drewN | apply below_drew1 | refine below_set ?_ GE108.out) | exact HB.out)⟩⟩
    case round =>
      clear H'
      try clear c1
      try clear p2
      try clear c3
      try clear c4
      try clear c7
      try clear hcz6_0
      try clear hcz6_1
      try clear hfz6_0
      try clear hfz6_1
      obtain ⟨x6_1, x7_1, x21_1, rfl, HA, HK1, HO_6, HO_7, BK108, HB⟩ := hrel
      cases gk with
      | zero => exact absurd HA.out (by simp [clepsydraref07_Fuse.l0])
      | succ k1 =>
        have H := HA.out
        clear HA
        simp only [clepsydraref07_Fuse.l0] at H
        by_cases c8 : x21_1 < (l1.length : Int)
        · rw [if_pos c8] at H
          have c8b0 : decide (x21_1 < (l1.length : Int)) = true := decide_eq_true c8
          clear c8
          by_cases c9 : 0 ≤ x21_1
          · rw [if_pos c9] at H
            have c9b0 : decide (0 ≤ x21_1) = true := decide_eq_true c9
            clear c9
            by_cases c10 : x21_1 < (l1.length : Int)
            · rw [if_pos c10] at H
              have c10b0 : decide (x21_1 < (l1.length : Int)) = true := decide_eq_true c10
              clear c10
              by_cases c11 : x6_1.length < 17592186044416
              · rw [if_pos c11] at H
                have LMc11 := Aside0.mk c11
                clear c11
                obtain ⟨y112, hy112⟩ : ∃ y_ : List Int, y_ = (x6_1 ++ [(rd_T25 l1 x21_1).f0]) := ⟨_, rfl⟩
                replace H : (if x7_1.length < 17592186044416 then (clepsydraref07_Fuse.l0 k1 a0 y112 (x7_1 ++ [(rd_T25 l1 x21_1).f1]) l1 (l1.length : Int) (wrap64 (x21_1 + 1))) else (none)) = some (r1, r2, r3) := by first | (rw [hy112]; with_reducible exact H) | (have H2_ := (Option.bind_some _ _).symm.trans H; rw [hy112]; with_reducible exact H2_) | (have H2_ := (Option.bind_some _ _).symm.trans H; with_reducible exact H2_) | with_reducible exact H | (rw [hy112]; exact H) | exact H
                have Ny112 := Aside0.mk hy112
                clear hy112
                by_cases c12 : x7_1.length < 17592186044416
                · rw [if_pos c12] at H
                  have LMc12 := Aside0.mk c12
                  clear c12
                  obtain ⟨y115, hy115⟩ : ∃ y_ : List Int, y_ = (x7_1 ++ [(rd_T25 l1 x21_1).f1]) := ⟨_, rfl⟩
                  replace H : (clepsydraref07_Fuse.l0 k1 a0 y112 y115 l1 (l1.length : Int) (wrap64 (x21_1 + 1))) = some (r1, r2, r3) := by first | (rw [hy115]; with_reducible exact H) | (have H2_ := (Option.bind_some _ _).symm.trans H; rw [hy115]; with_reducible exact H2_) | (have H2_ := (Option.bind_some _ _).symm.trans H; with_reducible exact H2_) | with_reducible exact H | (rw [hy115]; exact H) | exact H
                  have Ny115 := Aside0.mk hy115
                  clear hy115
                  have H' := Aside0.mk H
                  clear H
                  have p110 : 0 ≤ (x21_1 : Int) := of_decide_eq_true (by first | (with_reducible assumption) | assumption)
                  have q110 : x21_1 < (l1.length : Int) := of_decide_eq_true (by first | (with_reducible assumption) | assumption)
                  obtain ⟨ad110, e110, hx110_0, hx110_1⟩ := at_T25 HR1.out x21_1 p110 q110
                  cases e110
                  replace hx110_0 := (HB.out.cell (World.block_lt_of_cell? w _ hx110_0)).trans hx110_0
                  replace hx110_1 := (HB.out.cell (World.block_lt_of_cell? w _ hx110_1)).trans hx110_1
                  replace p110 := eq_true p110
                  replace q110 := eq_true q110
                  go_wp2_with (first | ((with_reducible refine gate_dst (N := 9) rfl ?_); refine box_event ?hg (N := 9) ?hd (cs := #[.int .i64 0, .int .i64 0]) (t := 25) ?hr ?_; (case hd => rfl); (case hg => rfl); (case hr => first | (go_simp; done) | (go_simp; rfl)); intro gb111 hg w13 hbox hb; have n0_ := Aside0.mk (Kd.R_below (by (with_reducible repeat (first | apply Kd.R_alloc | apply Kd.R_drewN | apply Kd.R_drew)); exact HO_6.out) hb); have n1_ := Aside0.mk (Kd.R_below (by (with_reducible repeat (first | apply Kd.R_alloc | apply Kd.R_drewN | apply Kd.R_drew)); exact HO_7.out) hb); have n2_ := Aside0.mk (blk_below (g := gb108) (o := .cells #[.int .i64 0, .int .i64 0] 25 (0, 0)) (by (with_reducible repeat (first | refine blk_drewN ?_ _ | refine blk_drew ?_ | refine blk_alloc ?_ _)); exact BK108.out) hb); have n3_ := Aside0.mk (below_step (by repeat (first | (with_reducible first | exact HB.out | apply below_alloc | apply pw_below_drewN | apply below_drew1 | refine below_set ?_ GE108.out) | exact HB.out)) hb); have n4_ := Aside0.mk (hbox); have n5_ := Aside0.mk ((by rw [hg]; exact (below_size (by repeat (first | (with_reducible first | exact HB.out | apply below_alloc | apply pw_below_drewN | apply below_drew1 | refine below_set ?_ GE108.out) | exact HB.out))) : w.heap.size ≤ gb111)); have n6_ := Aside0.mk ((by rw [hg]; exact (below_size (by repeat (first | (with_reducible first | exact HB.out | apply below_alloc | apply pw_below_drewN | apply below_drew1 | refine below_set ?_ GE108.out) | exact HB.out))) : w.heap.size ≤ gb111)); have n7_ := Aside0.mk ((by rw [hg]; exact Nat.ne_of_lt (blk_lt (g := gb108) (o := .cells #[.int .i64 0, .int .i64 0] 25 (0, 0)) (by (with_reducible repeat (first | refine blk_drewN ?_ _ | refine blk_drew ?_ | refine blk_alloc ?_ _)); exact BK108.out)) : gb108 ≠ gb111)); have n8_ := Aside0.mk ((by rw [hg]; exact Nat.ne_of_gt (blk_lt (g := gb108) (o := .cells #[.int .i64 0, .int .i64 0] 25 (0, 0)) (by (with_reducible repeat (first | refine blk_drewN ?_ _ | refine blk_drew ?_ | refine blk_alloc ?_ _)); exact BK108.out)) : gb111 ≠ gb108)); clear HO_6; clear HO_7; clear BK108; clear HB; have HO_6 := n0_; have HO_7 := n1_; have BK108 := n2_; have HB := n3_; have BK111 := n4_; have GW111 := n5_; have GE111 := n6_; have NB108_111 := n7_; have NB111_108 := n8_; clear n0_ n1_ n2_ n3_ n4_ n5_ n6_ n7_ n8_; clear hb hbox hg; have hnb14 := NB111_108.out; have hnc14 := NB108_111.out; have hcz15_0 : w13.cell? ⟨gb111, 0, none⟩ = some (.int .i64 0) := (blk_cell BK111.out 0).trans rfl; have hcz15_1 : w13.cell? ⟨gb111, 1, none⟩ = some (.int .i64 0) := (blk_cell BK111.out 1).trans rfl; have hfz15_0 := blk_frozen BK111.out 0; have hfz15_1 := blk_frozen BK111.out 1) | ((with_reducible refine gate_builtin (b := .append) (xs := #[.tmp 25, .tmp 28]) rfl ?_); at_builtin; refine Kd.R_append (Kd.int .i64) (w0 := w) w.heap.size rfl (.tmp 25) (.tmp 28) 69 3 (.int .i64 0) 8 rfl Tryz.underlying69 info3 rfl (by decide) (by omega) u6 x6_1 ((rd_T25 l1 x21_1).f0) [.int .i64 ((rd_T25 l1 x21_1).f0)] (fun k_ => some k_ ≠ (u7 : Value).ownBlock) (fun _ => False) rfl (by first | (go_simp; done) | (go_simp; rfl)) ?aP (fun _ hk => hk.elim) ?aF ?aO ?aB ?aS ?aL ?_; (case aP => exact rfl); (case aB => exact (by repeat (first | (with_reducible first | exact HB.out | apply below_alloc | apply pw_below_drewN | apply below_drew1 | refine below_set ?_ GE108.out | refine below_set ?_ GE111.out) | exact HB.out))); (case aF => exact (fun k_ hk => Kd.fresh' (Kd.R_lt (by (with_reducible repeat (first | apply Kd.R_alloc | apply Kd.R_drewN | apply Kd.R_drew)); exact (Kd.R_mono (Kd.R_far (p := ⟨gb111, 1, none⟩) (Kd.R_far (p := ⟨gb111, 0, none⟩) (Kd.R_types HO_7.out BK111.out (by decide)) (fun _ hk => hk.2) (.int .i64 ((rd_T25 l1 x21_1).f0))) (fun _ hk => hk.2) (.int .i64 ((rd_T25 l1 x21_1).f1))) (fun _ h_ => h_.1)))) k_ hk)); (case aO => exact (by (with_reducible repeat (first | apply Kd.R_alloc | apply Kd.R_drewN | apply Kd.R_drew)); exact Kd.R_mono (Kd.R_far (p := ⟨gb111, 1, none⟩) (Kd.R_far (p := ⟨gb111, 0, none⟩) (Kd.R_types HO_6.out BK111.out (by decide)) (fun _ hk => hk.2) (.int .i64 ((rd_T25 l1 x21_1).f0))) (fun _ hk => hk.2) (.int .i64 ((rd_T25 l1 x21_1).f1))) (fun _ hk => hk.1))); (case aS => exact (below_size (by repeat (first | (with_reducible first | exact HB.out | apply below_alloc | apply pw_below_drewN | apply below_drew1 | refine below_set ?_ GE108.out | refine below_set ?_ GE111.out) | exact HB.out)))); (case aL => have := LMc11.out; omega); intro v113 w16 ho hb hg hat; rw [← Ny112.out] at ho; have n0_ := Aside0.mk (Kd.R_after (ok := (fun _ => True)) (by (with_reducible repeat (first | apply Kd.R_alloc | apply Kd.R_drewN | apply Kd.R_drew)); exact Kd.R_mono (Kd.R_far (p := ⟨gb111, 1, none⟩) (Kd.R_far (p := ⟨gb111, 0, none⟩) (Kd.R_types HO_7.out BK111.out (by decide)) (fun _ hk => hk.2) (.int .i64 ((rd_T25 l1 x21_1).f0))) (fun _ hk => hk.2) (.int .i64 ((rd_T25 l1 x21_1).f1))) (fun _ hk => ⟨trivial, hk.1⟩)) hg hat); have n1_ := Aside0.mk (blk_grown (g := gb108) (o := .cells #[.int .i64 0, .int .i64 0] 25 (0, 0)) (by (with_reducible repeat (first | refine blk_drewN ?_ _ | refine blk_drew ?_ | refine blk_alloc ?_ _)); refine blk_far ?_ NB108_111.out _; (with_reducible repeat (first | refine blk_drewN ?_ _ | refine blk_drew ?_ | refine blk_alloc ?_ _)); refine blk_far ?_ NB108_111.out _; (with_reducible repeat (first | refine blk_drewN ?_ _ | refine blk_drew ?_ | refine blk_alloc ?_ _)); exact BK108.out) hg (Kd.R_ne HO_6.out BK108.out (by decide))); have n2_ := Aside0.mk (blk_grown (g := gb111) (o := .cells #[.int .i64 ((rd_T25 l1 x21_1).f0), .int .i64 ((rd_T25 l1 x21_1).f1)] 25 (0, 0)) (by (with_reducible repeat (first | refine blk_drewN ?_ _ | refine blk_drew ?_ | refine blk_alloc ?_ _)); refine blk_put (cs := #[.int .i64 ((rd_T25 l1 x21_1).f0), .int .i64 0]) ?_ 1 _ rfl; (with_reducible repeat (first | refine blk_drewN ?_ _ | refine blk_drew ?_ | refine blk_alloc ?_ _)); refine blk_put (cs := #[.int .i64 0, .int .i64 0]) ?_ 0 _ rfl; (with_reducible repeat (first | refine blk_drewN ?_ _ | refine blk_drew ?_ | refine blk_alloc ?_ _)); exact BK111.out) hg (Kd.R_ne HO_6.out BK111.out (by decide))); have n3_ := Aside0.mk (hb); have n4_ := Aside0.mk (ho); clear HO_7; clear BK108; clear BK111; clear HB; clear HO_6; have HO_7 := n0_; have BK108 := n1_; have BK111 := n2_; have HB := n3_; have HO114 := n4_; clear n0_ n1_ n2_ n3_ n4_; clear ho hb hg hat; have hcz17_0 : w16.cell? ⟨gb111, 0, none⟩ = some (.int .i64 ((rd_T25 l1 x21_1).f0)) := (blk_cell BK111.out 0).trans rfl; have hcz17_1 : w16.cell? ⟨gb111, 1, none⟩ = some (.int .i64 ((rd_T25 l1 x21_1).f1)) := (blk_cell BK111.out 1).trans rfl; have hfz17_0 := blk_frozen BK111.out 0; have hfz17_1 := blk_frozen BK111.out 1) | ((with_reducible refine gate_builtin (b := .append) (xs := #[.tmp 30, .tmp 33]) rfl ?_); at_builtin; refine Kd.R_append (Kd.int .i64) (w0 := w) w.heap.size rfl (.tmp 30) (.tmp 33) 69 3 (.int .i64 0) 8 rfl Tryz.underlying69 info3 rfl (by decide) (by omega) u7 x7_1 ((rd_T25 l1 x21_1).f1) [.int .i64 ((rd_T25 l1 x21_1).f1)] (fun k_ => some k_ ≠ (v113 : Value).ownBlock) (fun _ => False) rfl rfl ?aP (fun _ hk => hk.elim) ?aF ?aO ?aB ?aS ?aL ?_; (case aP => exact rfl); (case aB => exact (by repeat (first | (with_reducible first | exact HB.out | apply below_alloc | apply pw_below_drewN | apply below_drew1 | refine below_set ?_ GE108.out | refine below_set ?_ GE111.out) | exact HB.out))); (case aF => exact (fun k_ hk => Kd.fresh' (Kd.R_lt (by (with_reducible repeat (first | apply Kd.R_alloc | apply Kd.R_drewN | apply Kd.R_drew)); exact HO114.out)) k_ hk)); (case aO => exact (by (with_reducible repeat (first | apply Kd.R_alloc | apply Kd.R_drewN | apply Kd.R_drew)); exact Kd.R_mono HO_7.out (fun _ hk => hk.2))); (case aS => exact (below_size (by repeat (first | (with_reducible first | exact HB.out | apply below_alloc | apply pw_below_drewN | apply below_drew1 | refine below_set ?_ GE108.out | refine below_set ?_ GE111.out) | exact HB.out)))); (case aL => have := LMc12.out; omega); intro v116 w18 ho hb hg hat; rw [← Ny115.out] at ho; have n0_ := Aside0.mk (blk_grown (g := gb108) (o := .cells #[.int .i64 0, .int .i64 0] 25 (0, 0)) (by (with_reducible repeat (first | refine blk_drewN ?_ _ | refine blk_drew ?_ | refine blk_alloc ?_ _)); exact BK108.out) hg (Kd.R_ne HO_7.out BK108.out (by decide))); have n1_ := Aside0.mk (blk_grown (g := gb111) (o := .cells #[.int .i64 ((rd_T25 l1 x21_1).f0), .int .i64 ((rd_T25 l1 x21_1).f1)] 25 (0, 0)) (by (with_reducible repeat (first | refine blk_drewN ?_ _ | refine blk_drew ?_ | refine blk_alloc ?_ _)); exact BK111.out) hg (Kd.R_ne HO_7.out BK111.out (by decide))); have n2_ := Aside0.mk (Kd.R_after (ok := (fun _ => True)) (by (with_reducible repeat (first | apply Kd.R_alloc | apply Kd.R_drewN | apply Kd.R_drew)); exact Kd.R_mono HO114.out (fun _ hk => ⟨trivial, hk⟩)) hg hat); have n3_ := Aside0.mk (hb); have n4_ := Aside0.mk (ho); clear BK108; clear BK111; clear HO114; clear HB; clear HO_7; have BK108 := n0_; have BK111 := n1_; have HO114 := n2_; have HB := n3_; have HO117 := n4_; clear n0_ n1_ n2_ n3_ n4_; clear ho hb hg hat))
                  go_roundg k1
                  case measure => have := HK1.out; omega
                  case rel => exact ⟨(y112), (y115), (wrap64 (x21_1 + 1)), (by first | rfl | (simp; done) | (simp [*]; done)), H', ⟨by have := HK1.out; omega⟩, ⟨by (with_reducible repeat (first | apply Kd.R_alloc | apply Kd.R_drewN | apply Kd.R_drew)); exact Kd.R_mono HO114.out (fun _ hk => hk.2)⟩, ⟨by (with_reducible repeat (first | apply Kd.R_alloc | apply Kd.R_drewN | apply Kd.R_drew)); exact HO117.out⟩, ⟨by (with_reducible repeat (first | refine blk_drewN ?_ _ | refine blk_drew ?_ | refine blk_alloc ?_ _)); exact BK108.out⟩, ⟨by repeat (first | (with_reducible first | exact HB.out | apply below_alloc | apply pw_below_drewN | apply below_drew1 | refine below_set ?_ GE108.out | refine below_set ?_ GE111.out) | exact HB.out)⟩⟩
                · rw [if_neg c12] at H
                  exact absurd H (by simp)
              · rw [if_neg c11] at H
                exact absurd H (by simp)
            · rw [if_neg c10] at H
              exact absurd H (by simp)
          · rw [if_neg c9] at H
            exact absurd H (by simp)
        · rw [if_neg c8] at H
          have c8b0 : decide (x21_1 < (l1.length : Int)) = false := decide_eq_false c8
          clear c8
          replace H := Option.bind_eq_some_iff.mp H
          obtain ⟨⟨t118, t119⟩, A190, H⟩ := H
          replace H : ((clepsydraref07_Least.f k1 a0 x7_1).bind fun bt120 => (if t118 > bt120.1 then (some (0, 0, false)) else ((clepsydraref03_Of.f t118 bt120.1).bind fun bt122 => (some (bt122.1, bt122.2, true))))) = some (r1, r2, r3) := H
          have A19 := Aside0.mk A190
          clear A190
          replace H := Option.bind_eq_some_iff.mp H
          obtain ⟨⟨t120, t121⟩, A200, H⟩ := H
          replace H : (if t118 > t120 then (some (0, 0, false)) else ((clepsydraref03_Of.f t118 t120).bind fun bt122 => (some (bt122.1, bt122.2, true)))) = some (r1, r2, r3) := H
          have A20 := Aside0.mk A200
          clear A200
          by_cases c21 : t118 > t120
          · rw [if_pos c21] at H
            have c21b0 : decide (t120 < t118) = true := decide_eq_true c21
            clear c21
            simp only [Option.some.injEq, Prod.mk.injEq] at H
            obtain ⟨rfl, rfl, rfl⟩ := H
            obtain ⟨Ao22, co22, eo22⟩ := Kd.R_slice HO_6.out
            subst eo22
            go_wp2_with (first | ((with_reducible refine gate_callee (f := 73) rfl ?_); refine goesL_ (some 39) rfl rfl Tryz.func73 (by kernel_rfl) rfl #[.int .i64 a0, .slice Ao22 x6_1.length co22] rfl (by (try simp only [List.map_toArray, List.map_cons, List.map_nil]); first | done | rfl | (simp only [List.length_drop, List.length_take]; rfl)) ?_; (with_reducible refine (clepsydraref07_Most.calls k1 a0 _ _ x6_1 t118 t119 _ ?side1 ?side2 A19.out).mono ?_); (case side1 => repeat (first | exact (Kd.R_reads' HO_6.out).2.2 | (with_reducible refine Kd.C_alloc ?_ _) | (with_reducible refine Kd.C_drewN ?_ _) | (with_reducible refine Kd.C_drew ?_))); (case side2 => exact (Kd.R_reads' HO_6.out).2.1); rintro e w' ⟨rfl, ⟨nd, rfl⟩⟩; refine ⟨_, rfl, ?_⟩; (try (rw [drewN_self wr]; generalize hq_ : World.drewN wr _ = wr; have n0_ : Aside0 (Kd.R (Kd.int .i64) 3 wr w.heap.size (fun k_ => some k_ ≠ (u7 : Value).ownBlock) (.slice Ao22 x6_1.length co22) x6_1) := ⟨by rw [← hq_]; exact (by (with_reducible repeat (first | apply Kd.R_alloc | apply Kd.R_drewN | apply Kd.R_drew)); exact HO_6.out)⟩; have n1_ : Aside0 (Kd.R (Kd.int .i64) 3 wr w.heap.size (fun k_ => some k_ ≠ (.slice Ao22 x6_1.length co22 : Value).ownBlock) u7 x7_1) := ⟨by rw [← hq_]; exact (by (with_reducible repeat (first | apply Kd.R_alloc | apply Kd.R_drewN | apply Kd.R_drew)); exact HO_7.out)⟩; have n2_ : Aside0 (wr.heap[gb108]? = some (.cells #[.int .i64 0, .int .i64 0] 25 (0, 0))) := ⟨by rw [← hq_]; exact (by (with_reducible repeat (first | refine blk_drewN ?_ _ | refine blk_drew ?_ | refine blk_alloc ?_ _)); exact BK108.out)⟩; have n3_ : Aside0 (Below w.heap.size w wr) := ⟨by rw [← hq_]; exact (by repeat (first | (with_reducible first | exact HB.out | apply below_alloc | apply pw_below_drewN | apply below_drew1 | refine below_set ?_ GE108.out) | exact HB.out))⟩; clear HO_6 HO_7 BK108 HB hq_; have HO_6 := n0_; have HO_7 := n1_; have BK108 := n2_; have HB := n3_; clear n0_ n1_ n2_ n3_)); obtain ⟨Ao23, co23, eo23⟩ := Kd.R_slice HO_7.out; subst eo23) | ((with_reducible refine gate_callee (f := 74) rfl ?_); refine goesL_ (some 45) rfl rfl Tryz.func74 (by kernel_rfl) rfl #[.int .i64 a0, .slice Ao23 x7_1.length co23] rfl (by (try simp only [List.map_toArray, List.map_cons, List.map_nil]); first | done | rfl | (simp only [List.length_drop, List.length_take]; rfl)) ?_; (with_reducible refine (clepsydraref07_Least.calls k1 a0 _ _ x7_1 t120 t121 _ ?side1 ?side2 A20.out).mono ?_); (case side1 => repeat (first | exact (Kd.R_reads' HO_7.out).2.2 | (with_reducible refine Kd.C_alloc ?_ _) | (with_reducible refine Kd.C_drewN ?_ _) | (with_reducible refine Kd.C_drew ?_))); (case side2 => exact (Kd.R_reads' HO_7.out).2.1); rintro e w' ⟨rfl, ⟨nd, rfl⟩⟩; refine ⟨_, rfl, ?_⟩; (try (rw [drewN_self wr]; generalize hq_ : World.drewN wr _ = wr; have n0_ : Aside0 (Kd.R (Kd.int .i64) 3 wr w.heap.size (fun k_ => some k_ ≠ (.slice Ao23 x7_1.length co23 : Value).ownBlock) (.slice Ao22 x6_1.length co22) x6_1) := ⟨by rw [← hq_]; exact (by (with_reducible repeat (first | apply Kd.R_alloc | apply Kd.R_drewN | apply Kd.R_drew)); exact HO_6.out)⟩; have n1_ : Aside0 (Kd.R (Kd.int .i64) 3 wr w.heap.size (fun k_ => some k_ ≠ (.slice Ao22 x6_1.length co22 : Value).ownBlock) (.slice Ao23 x7_1.length co23) x7_1) := ⟨by rw [← hq_]; exact (by (with_reducible repeat (first | apply Kd.R_alloc | apply Kd.R_drewN | apply Kd.R_drew)); exact HO_7.out)⟩; have n2_ : Aside0 (wr.heap[gb108]? = some (.cells #[.int .i64 0, .int .i64 0] 25 (0, 0))) := ⟨by rw [← hq_]; exact (by (with_reducible repeat (first | refine blk_drewN ?_ _ | refine blk_drew ?_ | refine blk_alloc ?_ _)); exact BK108.out)⟩; have n3_ : Aside0 (Below w.heap.size w wr) := ⟨by rw [← hq_]; exact (by repeat (first | (with_reducible first | exact HB.out | apply below_alloc | apply pw_below_drewN | apply below_drew1 | refine below_set ?_ GE108.out) | exact HB.out))⟩; clear HO_6 HO_7 BK108 HB hq_; have HO_6 := n0_; have HO_7 := n1_; have BK108 := n2_; have HB := n3_; clear n0_ n1_ n2_ n3_)); have hcz24_0 : wr.cell? ⟨gb108, 0, none⟩ = some (.int .i64 0) := (blk_cell BK108.out 0).trans rfl; have hcz24_1 : wr.cell? ⟨gb108, 1, none⟩ = some (.int .i64 0) := (blk_cell BK108.out 1).trans rfl; have hfz24_0 := blk_frozen BK108.out 0; have hfz24_1 := blk_frozen BK108.out 1))
            refine bodyPost_ret (results_ct rfl _ _ gb108 25 #[.int .i64 0, .int .i64 0] (0, 0) _ rfl (by (with_reducible repeat (first | refine blk_drewN ?_ _ | refine blk_drew ?_ | refine blk_alloc ?_ _)); refine blk_put (cs := #[.int .i64 0, .int .i64 0]) ?_ 1 _ rfl; (with_reducible repeat (first | refine blk_drewN ?_ _ | refine blk_drew ?_ | refine blk_alloc ?_ _)); refine blk_put (cs := #[.int .i64 0, .int .i64 0]) ?_ 0 _ rfl; (with_reducible repeat (first | refine blk_drewN ?_ _ | refine blk_drew ?_ | refine blk_alloc ?_ _)); exact BK108.out) Tryz.underlying25 rfl (by kernel_rfl)) rfl ?_
            exact ⟨by first | rfl | (simp [errW_none, errW_some] <;> rfl) | (simp [*, errW_none, errW_some] <;> rfl), by repeat (first | (with_reducible first | exact HB.out | apply below_alloc | apply pw_below_drewN | apply below_drew1 | refine below_set ?_ GE108.out) | exact HB.out)⟩
          · rw [if_neg c21] at H
            have c21b0 : decide (t120 < t118) = false := decide_eq_false c21
            clear c21
            replace H := Option.bind_eq_some_iff.mp H
            obtain ⟨⟨t122, t123⟩, A250, H⟩ := H
            replace H : (some (t122, t123, true)) = some (r1, r2, r3) := H
            have A25 := Aside0.mk A250
            clear A250
            simp only [Option.some.injEq, Prod.mk.injEq] at H
            obtain ⟨rfl, rfl, rfl⟩ := H
            obtain ⟨Ao26, co26, eo26⟩ := Kd.R_slice HO_6.out
            subst eo26
            go_wp2_with (first | ((with_reducible refine gate_callee (f := 73) rfl ?_); refine goesL_ (some 39) rfl rfl Tryz.func73 (by kernel_rfl) rfl #[.int .i64 a0, .slice Ao26 x6_1.length co26] rfl (by (try simp only [List.map_toArray, List.map_cons, List.map_nil]); first | done | rfl | (simp only [List.length_drop, List.length_take]; rfl)) ?_; (with_reducible refine (clepsydraref07_Most.calls k1 a0 _ _ x6_1 t118 t119 _ ?side1 ?side2 A19.out).mono ?_); (case side1 => repeat (first | exact (Kd.R_reads' HO_6.out).2.2 | (with_reducible refine Kd.C_alloc ?_ _) | (with_reducible refine Kd.C_drewN ?_ _) | (with_reducible refine Kd.C_drew ?_))); (case side2 => exact (Kd.R_reads' HO_6.out).2.1); rintro e w' ⟨rfl, ⟨nd, rfl⟩⟩; refine ⟨_, rfl, ?_⟩; (try (rw [drewN_self wr]; generalize hq_ : World.drewN wr _ = wr; have n0_ : Aside0 (Kd.R (Kd.int .i64) 3 wr w.heap.size (fun k_ => some k_ ≠ (u7 : Value).ownBlock) (.slice Ao26 x6_1.length co26) x6_1) := ⟨by rw [← hq_]; exact (by (with_reducible repeat (first | apply Kd.R_alloc | apply Kd.R_drewN | apply Kd.R_drew)); exact HO_6.out)⟩; have n1_ : Aside0 (Kd.R (Kd.int .i64) 3 wr w.heap.size (fun k_ => some k_ ≠ (.slice Ao26 x6_1.length co26 : Value).ownBlock) u7 x7_1) := ⟨by rw [← hq_]; exact (by (with_reducible repeat (first | apply Kd.R_alloc | apply Kd.R_drewN | apply Kd.R_drew)); exact HO_7.out)⟩; have n2_ : Aside0 (wr.heap[gb108]? = some (.cells #[.int .i64 0, .int .i64 0] 25 (0, 0))) := ⟨by rw [← hq_]; exact (by (with_reducible repeat (first | refine blk_drewN ?_ _ | refine blk_drew ?_ | refine blk_alloc ?_ _)); exact BK108.out)⟩; have n3_ : Aside0 (Below w.heap.size w wr) := ⟨by rw [← hq_]; exact (by repeat (first | (with_reducible first | exact HB.out | apply below_alloc | apply pw_below_drewN | apply below_drew1 | refine below_set ?_ GE108.out) | exact HB.out))⟩; clear HO_6 HO_7 BK108 HB hq_; have HO_6 := n0_; have HO_7 := n1_; have BK108 := n2_; have HB := n3_; clear n0_ n1_ n2_ n3_)); obtain ⟨Ao27, co27, eo27⟩ := Kd.R_slice HO_7.out; subst eo27) | ((with_reducible refine gate_callee (f := 74) rfl ?_); refine goesL_ (some 45) rfl rfl Tryz.func74 (by kernel_rfl) rfl #[.int .i64 a0, .slice Ao27 x7_1.length co27] rfl (by (try simp only [List.map_toArray, List.map_cons, List.map_nil]); first | done | rfl | (simp only [List.length_drop, List.length_take]; rfl)) ?_; (with_reducible refine (clepsydraref07_Least.calls k1 a0 _ _ x7_1 t120 t121 _ ?side1 ?side2 A20.out).mono ?_); (case side1 => repeat (first | exact (Kd.R_reads' HO_7.out).2.2 | (with_reducible refine Kd.C_alloc ?_ _) | (with_reducible refine Kd.C_drewN ?_ _) | (with_reducible refine Kd.C_drew ?_))); (case side2 => exact (Kd.R_reads' HO_7.out).2.1); rintro e w' ⟨rfl, ⟨nd, rfl⟩⟩; refine ⟨_, rfl, ?_⟩; (try (rw [drewN_self wr]; generalize hq_ : World.drewN wr _ = wr; have n0_ : Aside0 (Kd.R (Kd.int .i64) 3 wr w.heap.size (fun k_ => some k_ ≠ (.slice Ao27 x7_1.length co27 : Value).ownBlock) (.slice Ao26 x6_1.length co26) x6_1) := ⟨by rw [← hq_]; exact (by (with_reducible repeat (first | apply Kd.R_alloc | apply Kd.R_drewN | apply Kd.R_drew)); exact HO_6.out)⟩; have n1_ : Aside0 (Kd.R (Kd.int .i64) 3 wr w.heap.size (fun k_ => some k_ ≠ (.slice Ao26 x6_1.length co26 : Value).ownBlock) (.slice Ao27 x7_1.length co27) x7_1) := ⟨by rw [← hq_]; exact (by (with_reducible repeat (first | apply Kd.R_alloc | apply Kd.R_drewN | apply Kd.R_drew)); exact HO_7.out)⟩; have n2_ : Aside0 (wr.heap[gb108]? = some (.cells #[.int .i64 0, .int .i64 0] 25 (0, 0))) := ⟨by rw [← hq_]; exact (by (with_reducible repeat (first | refine blk_drewN ?_ _ | refine blk_drew ?_ | refine blk_alloc ?_ _)); exact BK108.out)⟩; have n3_ : Aside0 (Below w.heap.size w wr) := ⟨by rw [← hq_]; exact (by repeat (first | (with_reducible first | exact HB.out | apply below_alloc | apply pw_below_drewN | apply below_drew1 | refine below_set ?_ GE108.out) | exact HB.out))⟩; clear HO_6 HO_7 BK108 HB hq_; have HO_6 := n0_; have HO_7 := n1_; have BK108 := n2_; have HB := n3_; clear n0_ n1_ n2_ n3_))) | ((with_reducible refine gate_callee (f := 20) rfl ?_); refine goesL_ (some 54) rfl rfl Tryz.func20 (by kernel_rfl) rfl #[.int .i64 t118, .int .i64 t120] rfl (by (try simp only [List.map_toArray, List.map_cons, List.map_nil]); first | done | rfl | (simp only [List.length_drop, List.length_take]; rfl)) ?_; (with_reducible refine (clepsydraref03_Of.calls t118 t120 t122 t123 _ A25.out).mono ?_); rintro e w28 ⟨rfl, hb⟩; refine ⟨_, rfl, ?_⟩; have n0_ := Aside0.mk (Kd.R_below (by (with_reducible repeat (first | apply Kd.R_alloc | apply Kd.R_drewN | apply Kd.R_drew)); exact HO_6.out) hb); have n1_ := Aside0.mk (Kd.R_below (by (with_reducible repeat (first | apply Kd.R_alloc | apply Kd.R_drewN | apply Kd.R_drew)); exact HO_7.out) hb); have n2_ := Aside0.mk (blk_below (g := gb108) (o := .cells #[.int .i64 0, .int .i64 0] 25 (0, 0)) (by (with_reducible repeat (first | refine blk_drewN ?_ _ | refine blk_drew ?_ | refine blk_alloc ?_ _)); exact BK108.out) hb); have n3_ := Aside0.mk (below_step (by repeat (first | (with_reducible first | exact HB.out | apply below_alloc | apply pw_below_drewN | apply below_drew1 | refine below_set ?_ GE108.out) | exact HB.out)) hb); clear HO_6; clear HO_7; clear BK108; clear HB; have HO_6 := n0_; have HO_7 := n1_; have BK108 := n2_; have HB := n3_; clear n0_ n1_ n2_ n3_; (try clear hb); (try clear hb2); (try clear hk); (try clear hi); have hcz29_0 : w28.cell? ⟨gb108, 0, none⟩ = some (.int .i64 0) := (blk_cell BK108.out 0).trans rfl; have hcz29_1 : w28.cell? ⟨gb108, 1, none⟩ = some (.int .i64 0) := (blk_cell BK108.out 1).trans rfl; have hfz29_0 := blk_frozen BK108.out 0; have hfz29_1 := blk_frozen BK108.out 1))
            refine bodyPost_ret (results_ct rfl _ _ gb108 25 #[.int .i64 t122, .int .i64 t123] (0, 0) _ rfl (by (with_reducible repeat (first | refine blk_drewN ?_ _ | refine blk_drew ?_ | refine blk_alloc ?_ _)); refine blk_put (cs := #[.int .i64 t122, .int .i64 0]) ?_ 1 _ rfl; (with_reducible repeat (first | refine blk_drewN ?_ _ | refine blk_drew ?_ | refine blk_alloc ?_ _)); refine blk_put (cs := #[.int .i64 0, .int .i64 0]) ?_ 0 _ rfl; (with_reducible repeat (first | refine blk_drewN ?_ _ | refine blk_drew ?_ | refine blk_alloc ?_ _)); exact BK108.out) Tryz.underlying25 rfl (by kernel_rfl)) rfl ?_
            exact ⟨by first | rfl | (simp [errW_none, errW_some] <;> rfl) | (simp [*, errW_none, errW_some] <;> rfl), by repeat (first | (with_reducible first | exact HB.out | apply below_alloc | apply pw_below_drewN | apply below_drew1 | refine below_set ?_ GE108.out) | exact HB.out)⟩
end Go.Proofs.YtbmfgcekglgliaaGreat.XR

namespace Go.Proofs.YtbmfgcekglgliaaGreat.XR
open Go.RowKit Go.Proofs.YtbmfgcekglgliaaGreatW.PrintWords Go.Proofs.YtbmfgcekglgliaaGreatW.PrintLast Go.Proofs.YtbmfgcekglgliaaGreatW.PrintMore Go.Proofs.YtbmfgcekglgliaaGreatPl
open Go.Proofs.YtbmfgcekglgliaaGreat.So (srt least has srt_length)
open Go.Proofs.YtbmfgcekglgliaaGreat.X (most few fin fuse srt_mem srt_is least_most)
set_option linter.unusedVariables false
set_option linter.unusedSimpArgs false
def cvS (x : S25) : Go.Proofs.YtbmfgcekglgliaaGreat.X.S25 := ⟨x.f0, x.f1⟩
def bkS (x : Go.Proofs.YtbmfgcekglgliaaGreat.X.S25) : S25 := ⟨x.f0, x.f1⟩
def lowsR (l : List S25) : List Int := l.map (·.f0)
def highsR (l : List S25) : List Int := l.map (·.f1)
theorem refLeast_l1 (a0 : Int) (l : List Int) (x : Int) (n i : Int) (hl : l.length ≤ 4096) : ∀ (d m : Nat) (b u j : Int), 0 ≤ j → j ≤ l.length → (l.length : Int) - j = d → 0 ≤ b → b ≤ j → 0 ≤ u → u ≤ j →
    b + (l.drop j.toNat).countP (fun y => decide (y < x)) = l.countP (fun y => decide (y < x)) → u + (l.drop j.toNat).countP (fun y => decide (y ≤ x)) = l.countP (fun y => decide (y ≤ x)) →
    clepsydraref07_Least.l1 (m + 1 + d) a0 l x b u l n i l (l.length : Int) j = if (l.countP (fun y => decide (y < x)) : Int) ≤ a0 then (if a0 < (l.countP (fun y => decide (y ≤ x)) : Int) then some (x, true) else clepsydraref07_Least.l0 m a0 l l n (wrap64 (i + 1))) else clepsydraref07_Least.l0 m a0 l l n (wrap64 (i + 1)) := by
  intro d
  induction d with
  | zero =>
    intro m b u j h0 h1 hd _ _ _ _ hb hu
    rw [drop_end l j (by omega)] at hb hu
    simp only [List.countP_nil, Int.natCast_zero, Int.add_zero] at hb hu
    rw [Nat.add_zero, clepsydraref07_Least.l1, if_neg (by omega), hb, hu]
  | succ d ih =>
    intro m b u j h0 h1 hd b0 b1 u0 u1 hb hu
    rw [drop_at 0 l j h0 (by omega), List.countP_cons] at hb hu
    rw [← Nat.add_assoc, clepsydraref07_Least.l1, if_pos (by omega), if_pos h0, if_pos (by omega)]
    change _ + ((List.countP _ _ + (if decide (rd l j < x) = true then 1 else 0) : Nat) : Int) = _ at hb
    change _ + ((List.countP _ _ + (if decide (rd l j ≤ x) = true then 1 else 0) : Nat) : Int) = _ at hu
    generalize rd l j = y at *
    rw [wrap_id (x := j + 1) (by omega) (by omega), wrap_id (x := b + 1) (by omega) (by omega), wrap_id (x := u + 1) (by omega) (by omega)]
    by_cases g1 : y < x
    · rw [if_pos g1, if_pos (show y ≤ x by omega)]
      rw [if_pos (decide_eq_true g1)] at hb
      rw [if_pos (decide_eq_true (show y ≤ x by omega))] at hu
      exact ih m (b + 1) (u + 1) (j + 1) (by omega) (by omega) (by omega) (by omega) (by omega) (by omega) (by omega) (by omega) (by omega)
    · rw [if_neg g1]
      rw [if_neg (by simpa using g1)] at hb
      by_cases g2 : y ≤ x
      · rw [if_pos g2]
        rw [if_pos (decide_eq_true g2)] at hu
        exact ih m b (u + 1) (j + 1) (by omega) (by omega) (by omega) (by omega) (by omega) (by omega) (by omega) (by omega) (by omega)
      · rw [if_neg g2]
        rw [if_neg (by simpa using g2)] at hu
        exact ih m b u (j + 1) (by omega) (by omega) (by omega) (by omega) (by omega) (by omega) (by omega) (by omega) (by omega)
theorem refLeast_l0 (a0 : Int) (l : List Int) (hl : l.length ≤ 4096) (ha : 0 ≤ a0) (ha2 : a0 < (l.length : Int)) : ∀ (d m : Nat) (i : Int), 0 ≤ i → i ≤ l.length → (l.length : Int) - i = d → (srt l).getD a0.toNat 0 ∈ l.drop i.toNat →
    clepsydraref07_Least.l0 (m + 1 + d * (l.length + 2)) a0 l l (l.length : Int) i = some ((srt l).getD a0.toNat 0, true) := by
  intro d
  induction d with
  | zero =>
    intro m i h0 h1 hd hm
    rw [drop_end l i (by omega)] at hm
    simp at hm
  | succ d ih =>
    intro m i h0 h1 hd hm
    rw [show m + 1 + (d + 1) * (l.length + 2) = ((m + 1 + d * (l.length + 2)) + 1 + l.length) + 1 by rw [Nat.add_mul]; omega]
    rw [clepsydraref07_Least.l0, if_pos (by omega), if_pos h0, if_pos (by omega)]
    rw [drop_at 0 l i h0 (by omega)] at hm
    change _ ∈ rd l i :: _ at hm
    generalize rd l i = x at *
    rw [refLeast_l1 a0 l x (l.length : Int) i hl l.length (m + 1 + d * (l.length + 2)) 0 0 0 (by omega) (by omega) (by omega) (by omega) (by omega) (by omega) (by omega) (by simp) (by simp)]
    have hs := srt_is l a0.toNat (by omega) x
    by_cases g : (srt l).getD a0.toNat 0 = x
    · obtain ⟨g1, g2⟩ := hs.1 g
      rw [if_pos (by omega), if_pos (by omega), g]
    · have hm' : (srt l).getD a0.toNat 0 ∈ l.drop (i + 1).toNat := by
        rcases List.mem_cons.1 hm with h | h
        · exact absurd h g
        · exact h
      have e := ih m (i + 1) (by omega) (by omega) (by omega) hm'
      rw [wrap_id (x := i + 1) (by omega) (by omega), e]
      by_cases g1 : (l.countP (fun y => decide (y < x)) : Int) ≤ a0
      · rw [if_pos g1, if_neg (fun g2 => g (hs.2 ⟨by omega, by omega⟩))]
      · rw [if_neg g1]
theorem refLeast_f (a0 : Int) (l : List Int) (hl : l.length ≤ 4096) (k : Nat) (hk : 2 + l.length * (l.length + 2) ≤ k) : clepsydraref07_Least.f k a0 l = some (least a0 l, has a0 l) := by
  obtain ⟨k, rfl⟩ : ∃ m, k = m + 1 + l.length * (l.length + 2) + 1 := ⟨k - (2 + l.length * (l.length + 2)), by omega⟩
  unfold clepsydraref07_Least.f least has
  by_cases h0 : a0 < 0
  · rw [if_pos h0, clepsydraref07_Least.j0, if_pos rfl, if_neg (by omega), decide_eq_false (by omega)]
  · rw [if_neg h0, clepsydraref07_Least.j0]
    by_cases h1 : a0 ≥ (l.length : Int)
    · rw [if_pos (decide_eq_true h1), if_neg (by omega), decide_eq_false (by omega)]
    · rw [if_neg (by simpa using h1), refLeast_l0 a0 l hl (by omega) (by omega) l.length k 0 (by omega) (by omega) (by omega) (by simpa using srt_mem l a0.toNat (by omega)), if_pos (by omega), decide_eq_true (by omega)]
theorem refMost_f (a0 : Int) (l : List Int) (hl : l.length ≤ 4096) (k : Nat) (hk : 2 + l.length * (l.length + 2) ≤ k) : clepsydraref07_Most.f k a0 l = some (most a0 l, has a0 l) := by
  unfold clepsydraref07_Most.f
  by_cases h0 : a0 < 0
  · rw [if_pos h0]; unfold most has; rw [if_neg (by omega), decide_eq_false (by omega)]
  · rw [if_neg h0]
    by_cases h1 : a0 ≥ (l.length : Int)
    · rw [if_pos h1]; unfold most has; rw [if_neg (by omega), decide_eq_false (by omega)]
    · rw [if_neg h1, wrap_id (x := (l.length : Int) - 1) (by omega) (by omega), wrap_id (by omega) (by omega), refLeast_f _ l hl k hk]
      obtain ⟨e1, e2⟩ := least_most (a0 := a0) (l := l) (by omega) (by omega)
      rw [e1, e2]
      unfold has
      rw [decide_eq_true (by omega)]
      rfl
theorem refClip_f (x : Int) : clepsydraref01_Clip.f x = some (clip x) := by
  unfold clepsydraref01_Clip.f clip
  by_cases h1 : x > 2305843009213693952
  · rw [if_pos h1, if_neg (by omega), if_pos h1]
  · rw [if_neg h1]
    by_cases h2 : x < -2305843009213693952
    · rw [if_pos h2, if_pos h2]
    · rw [if_neg h2, if_neg h2, if_neg h1]
theorem Few_f (f n : Int) (hn : 0 ≤ n) (hn2 : n ≤ 4096) : clepsydraref07_Few.f f n = some (few f n) := by
  unfold clepsydraref07_Few.f few
  by_cases h0 : f < 0
  · rw [if_pos h0, decide_eq_true (by omega)]
  · rw [if_neg h0]
    by_cases h1 : f > n
    · rw [if_pos h1, decide_eq_true (by omega)]
    · rw [if_neg h1, wrap_id (x := 2 * f) (by omega) (by omega), wrap_id (by omega) (by omega)]
      congr 1
      rw [decide_eq_decide]
      omega
theorem refOf_f (a b : Int) : clepsydraref03_Of.f a b = some (clip a, clip b) := by
  unfold clepsydraref03_Of.f
  rw [refClip_f, refClip_f]
  rfl
theorem refFuse_l0 (f : Int) (l : List S25) (hl : l.length ≤ 256) (m : Nat) (hm : 70000 ≤ m) : ∀ (d : Nat) (i : Int) (x y : List Int), 0 ≤ i → i ≤ l.length → (l.length : Int) - i = d → x.length = i.toNat → y.length = i.toNat →
    clepsydraref07_Fuse.l0 (m + 1 + d) f x y l (l.length : Int) i = some (fin f (x ++ lowsR (l.drop i.toNat)) (y ++ highsR (l.drop i.toNat))) := by
  have hb : ∀ x : List Int, x.length ≤ 256 → x.length * (x.length + 2) ≤ 256 * 258 := fun x hx => Nat.mul_le_mul hx (by omega)
  intro d
  induction d with
  | zero =>
    intro i x y h0 h1 hd hx hy
    have b1 := hb x (by omega)
    have b2 := hb y (by omega)
    rw [drop_end l i (by omega)]
    rw [Nat.add_zero, clepsydraref07_Fuse.l0, if_neg (by omega), refMost_f f x (by omega) _ (by omega), refLeast_f f y (by omega) _ (by omega)]
    simp only [Option.bind_some, lowsR, highsR, List.map_nil, List.append_nil, fin]
    by_cases g : most f x > least f y
    · rw [if_pos g, if_pos g]
    · rw [if_neg g, if_neg g, refOf_f]
      rfl
  | succ d ih =>
    intro i x y h0 h1 hd hx hy
    rw [drop_at z25 l i h0 (by omega)]
    rw [← Nat.add_assoc, clepsydraref07_Fuse.l0, if_pos (by omega), if_pos h0, if_pos (by omega)]
    change _ = some (fin f (x ++ lowsR (rd_T25 l i :: _)) (y ++ highsR (rd_T25 l i :: _)))
    generalize rd_T25 l i = n
    rw [if_pos (by omega), if_pos (by omega), wrap_id (by omega) (by omega), ih (i + 1) (x ++ [n.f0]) (y ++ [n.f1]) (by omega) (by omega) (by omega) (by simp; omega) (by simp; omega)]
    simp [lowsR, highsR, List.append_assoc]
theorem refFuse_f (f : Int) (l : List S25) (hl : l.length ≤ 256) (k : Nat) (hk : 70001 + l.length ≤ k) : clepsydraref07_Fuse.f k f l = some (fuse f (l.map cvS)) := by
  obtain ⟨k, rfl⟩ : ∃ m, k = m + 1 + l.length := ⟨k - (l.length + 1), by omega⟩
  unfold clepsydraref07_Fuse.f fuse
  rw [List.length_map]
  rw [Few_f f _ (by omega) (by omega)]
  simp only [Option.bind_some]
  by_cases h : few f (l.length : Int) = true
  · rw [if_pos h, if_pos h]
  · rw [if_neg h, if_neg h, refFuse_l0 f l hl k (by omega) l.length 0 [] [] (by omega) (by omega) (by omega) rfl rfl]
    show some (fin f ([] ++ lowsR l) ([] ++ highsR l)) = some (fin f ((l.map cvS).map (·.f0)) ((l.map cvS).map (·.f1)))
    rw [List.map_map, List.map_map]
    rfl
theorem map_cv (l : List Go.Proofs.YtbmfgcekglgliaaGreat.X.S25) : (l.map bkS).map cvS = l := by rw [List.map_map]; exact List.map_id _
theorem rowS_R {W : World} {b n c : Nat} {A : Option Addr} {l : List Go.Proofs.YtbmfgcekglgliaaGreat.G.Sp} (h : W.ownsRow b 25 2 (.slice A n c) n (Go.Proofs.YtbmfgcekglgliaaGreat.G.flS l)) (hn : l.length = n) : n ≤ c ∧ Kd.C k25 W A n (l.map bkS) := by
  obtain ⟨h1, h2⟩ := Go.Proofs.YtbmfgcekglgliaaGreat.G.rowS_C h hn
  refine ⟨h1, by rw [List.length_map]; exact hn, h2.2.1, fun h0 => ?_⟩
  obtain ⟨ad, e, hq⟩ := h2.2.2 h0
  refine ⟨ad, e, fun j q hjq => ?_⟩
  rw [List.getElem?_map] at hjq
  obtain ⟨x, hx, rfl⟩ := Option.map_eq_some_iff.1 hjq
  exact hq j x hx
end Go.Proofs.YtbmfgcekglgliaaGreat.XR
namespace Go.Proofs.YtbmfgcekglgliaaGreat.G
open Go.RowKit Go.Proofs.YtbmfgcekglgliaaGreatW.PrintWords Go.Proofs.YtbmfgcekglgliaaGreatW.PrintLast Go.Proofs.YtbmfgcekglgliaaGreatW.PrintMore Go.Proofs.YtbmfgcekglgliaaGreatPl Go.Proofs.YtbmfgcekglgliaaGreatEm Go.Proofs.YtbmfgcekglgliaaGreatKr Go.Proofs.YtbmfgcekglgliaaGreat.X
theorem RFuse_calls (f : Int) (A : Option Addr) (c b : Nat) (l : List Sp) (w : World) (hr : w.ownsRow b 25 2 (.slice A l.length c) l.length (flS l)) (hl : l.length ≤ 256) : Calls Tryz.prog 38 #[.int .i64 f, .slice A l.length c] w fun e w' => e = .returned (.tuple #[.agg #[.int .i64 (fuse f l).1, .int .i64 (fuse f l).2.1], .bool (fuse f l).2.2]) ∧ Below w.heap.size w w' := by
  obtain ⟨h1, h2⟩ := Go.Proofs.YtbmfgcekglgliaaGreat.XR.rowS_R hr rfl
  have hk : (l.map Go.Proofs.YtbmfgcekglgliaaGreat.XR.bkS).length = l.length := List.length_map ..
  have hf := Go.Proofs.YtbmfgcekglgliaaGreat.XR.refFuse_f f (l.map Go.Proofs.YtbmfgcekglgliaaGreat.XR.bkS) (by rw [hk]; exact hl) (70001 + l.length) (by rw [hk]; exact Nat.le_refl _)
  rw [Go.Proofs.YtbmfgcekglgliaaGreat.XR.map_cv] at hf
  have := Go.Proofs.YtbmfgcekglgliaaGreat.XR.clepsydraref07_Fuse.calls (70001 + l.length) f A c (l.map Go.Proofs.YtbmfgcekglgliaaGreat.XR.bkS) (fuse f l).1 (fuse f l).2.1 (fuse f l).2.2 w (by rw [hk]; exact h2) (by rw [hk]; exact h1) hf
  rw [hk] at this
  exact this
end Go.Proofs.YtbmfgcekglgliaaGreat.G
