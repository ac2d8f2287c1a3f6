/- Texts X1, Ro, Gj, Rv, Ew, Aps, Gck, Rq, Rt, Sl, So, Fg, in one file, without what is not needed here. -/
import Derived.SizedLaws
import Derived.ChangeArms
import Derived.WideShapes
import Derived.ShutString
import Derived.ChangeSlices
import Derived.ProofKit
import Derived.Test.YtdaohldmojpihaaGreatDoorProg
import Derived.Shelf.Sort.Plain
import Derived.Shelf.Slices.In.SortNone
import Derived.Ground.Names2Prog
import Derived.RangeFuncBox
import Derived.RangeFuncWrites
import Derived.RangeFuncLeaves
import Derived.RangeFuncKeeps
import Derived.Shelf.Abstract
import Derived.WalkKit
import Derived.OwnWalkIn
import Derived.TacticsInMore
import Derived.LoopNIn
import Derived.LoopIn
import Derived.Maps.AppendAt
import Derived.Sort.OwnSortedInts
import Derived.Test.YtdaohldmojpihaaGreatDoorZNodeForgets3
namespace Go.Proofs.YtdaohldmojpihaaGreatDoor.X
open Go.RowKit Go.Proofs.YtdaohldmojpihaaGreatDoorW.PrintWords Go.Proofs.YtdaohldmojpihaaGreatDoorW.PrintLast Go.Proofs.YtdaohldmojpihaaGreatDoorW.PrintMore
attribute [local go_sem] max2_int min2_int max_two min_two max_three min_three max_four min_four   -- for this text's walks alone
set_option linter.unusedVariables false
set_option linter.unusedSimpArgs false
def sat_Bound.j0 : Nat → Int → Int → Int → Bool → Option (Int)
  | 0, _, _, _, _ => none
  | k + 1, x0, x1, x2, x7 => if x7 = true then (some x1) else (if x0 > x2 then (some x2) else (some x0))
def sat_Bound.f (k : Nat) (a0 : Int) (a1 : Int) (a2 : Int) : Option (Int) := if a0 < a1 then (sat_Bound.j0 k a0 a1 a2 true) else (sat_Bound.j0 k a0 a1 a2 (decide (a2 < a1)))
theorem sat_Bound.mono_l : ∀ k, (∀ y0 y1 y2 y3, LeO (sat_Bound.j0 k y0 y1 y2 y3) (sat_Bound.j0 (k + 1) y0 y1 y2 y3))
  | 0 => fun _ _ _ _ r h => by simp [sat_Bound.j0] at h
  | k + 1 => by
    have ih0 := sat_Bound.mono_l k
    · intro y0 y1 y2 y3
      unfold sat_Bound.j0
      repeat' first
      | (with_reducible exact ih0 _ _ _ _)
      | (with_reducible exact LeO.refl _)
      | (with_reducible exact LeO.none _)
      | (with_reducible refine LeO.ite ?_ ?_)
      | (with_reducible refine LeO.bind ?_ (fun _ => ?_))
      | exact ih0 _ _ _ _
      | exact LeO.none _
      | refine LeO.ite ?_ ?_
      | refine LeO.bind ?_ (fun _ => ?_)
theorem sat_Bound.mono : ∀ a0 a1 a2 k, LeO (sat_Bound.f k a0 a1 a2) (sat_Bound.f (k + 1) a0 a1 a2) := by
  intro a0 a1 a2 k
  have ih0 := sat_Bound.mono_l k
  unfold sat_Bound.f
  repeat' first
      | (with_reducible exact ih0 _ _ _ _)
      | (with_reducible exact LeO.refl _)
      | (with_reducible exact LeO.none _)
      | (with_reducible refine LeO.ite ?_ ?_)
      | (with_reducible refine LeO.bind ?_ (fun _ => ?_))
      | exact ih0 _ _ _ _
      | exact LeO.none _
      | refine LeO.ite ?_ ?_
      | refine LeO.bind ?_ (fun _ => ?_)
set_option maxHeartbeats 8000000 in
set_option maxRecDepth 100000 in
theorem sat_Bound.calls (k : Nat) (a0 : Int) (a1 : Int) (a2 : Int) (r : Int) (w : World) (h : sat_Bound.f k a0 a1 a2 = some r) :
    Calls Tryz.prog 46 #[.int .i64 a0, .int .i64 a1, .int .i64 a2] w fun e w' => e = .returned (.int .i64 r) ∧ Drawn0 w w' := by
  have H : (if a0 < a1 then (sat_Bound.j0 k a0 a1 a2 true) else (sat_Bound.j0 k a0 a1 a2 (decide (a2 < a1)))) = some r := h
  clear h
  have HC4 := Aside0.mk H
  clear H
  go_enter Tryz.func46, Tryz.ntmps46
  go_upto_region 1 with (fail)
  go_cut [7] (fun v7 wc => ∃ (kq : Nat) (x7_3 : Bool), v7 = .bool x7_3 ∧ Aside0 (sat_Bound.j0 kq a0 a1 a2 x7_3 = some r) ∧ Aside0 (kq ≤ k) ∧ Drawn0 w wc)
  case first =>
    have H := HC4.out
    clear HC4
    by_cases c5 : a0 < a1
    · rw [if_pos c5] at H
      have c5b0 : decide (a0 < a1) = true := decide_eq_true c5
      clear c5
      (first | rw [c5b0] | (simp only [i64_w, i32_w]; rw [c5b0]) | skip)
      have H' := Aside0.mk H
      clear H
      go_wp2
      go_meet
      case rel => exact ⟨_, (true), (by first | rfl | (simp; done) | (simp [*]; done)), H', ⟨by first | omega | exact Nat.le_refl _⟩, by repeat (first | exact Drawn0.refl _ | apply Drawn0.step)⟩
    · rw [if_neg c5] at H
      have c5b0 : decide (a0 < a1) = false := decide_eq_false c5
      clear c5
      (first | rw [c5b0] | (simp only [i64_w, i32_w]; rw [c5b0]) | skip)
      have H' := Aside0.mk H
      clear H
      go_wp2
      go_meet
      case rel => exact ⟨_, (decide (a2 < a1)), (by first | rfl | (simp; done) | (simp [*]; done)), H', ⟨by first | omega | exact Nat.le_refl _⟩, by repeat (first | exact Drawn0.refl _ | apply Drawn0.step)⟩
  case rest =>
    clear HC4
    try clear p2
    try clear c4
    try clear c5
    try clear c5b0
    obtain ⟨kq, x7_3, rfl, HA, HJ3, ⟨mc3, rfl⟩⟩ := hcut
    cases kq with
    | zero => exact absurd HA.out (by simp [sat_Bound.j0])
    | succ kj3 =>
      have H := HA.out
      clear HA
      simp only [sat_Bound.j0] at H
      by_cases c6 : x7_3 = true
      · subst c6
        have H1 : (some a1) = some r := by rw [if_pos rfl] at H; exact H
        clear H
        have H := H1
        clear H1
        obtain rfl := Option.some.inj H
        go_wp2
        go_ret
        exact ⟨by first | rfl | (simp; done) | (simp [*]; done), by repeat (first | exact Drawn0.refl _ | apply Drawn0.step)⟩
      · replace c6 := Bool.eq_false_iff.mpr c6
        subst c6
        have H1 : (if a0 > a2 then (some a2) else (some a0)) = some r := by rw [if_neg (show ¬ (false = true) by decide)] at H; exact H
        clear H
        have H := H1
        clear H1
        by_cases c7 : a0 > a2
        · rw [if_pos c7] at H
          have c7b0 : decide (a2 < a0) = true := decide_eq_true c7
          clear c7
          obtain rfl := Option.some.inj H
          go_wp2
          go_ret
          exact ⟨by first | rfl | (simp; done) | (simp [*]; done), by repeat (first | exact Drawn0.refl _ | apply Drawn0.step)⟩
        · rw [if_neg c7] at H
          have c7b0 : decide (a2 < a0) = false := decide_eq_false c7
          clear c7
          obtain rfl := Option.some.inj H
          go_wp2
          go_ret
          exact ⟨by first | rfl | (simp; done) | (simp [*]; done), by repeat (first | exact Drawn0.refl _ | apply Drawn0.step)⟩
def sat_Clip.f (k : Nat) (a0 : Int) : Option (Int) := (sat_Bound.f k a0 (-2305843009213693952) 2305843009213693952).bind fun t101 => (some t101)
theorem sat_Clip.mono : ∀ a0 k, LeO (sat_Clip.f k a0) (sat_Clip.f (k + 1) a0) := by
  intro a0 k
  unfold sat_Clip.f
  repeat' first
      | (with_reducible exact sat_Bound.mono _ _ _ _)
      | (with_reducible exact LeO.refl _)
      | (with_reducible exact LeO.none _)
      | (with_reducible refine LeO.ite ?_ ?_)
      | (with_reducible refine LeO.bind ?_ (fun _ => ?_))
      | exact sat_Bound.mono _ _ _ _
      | exact LeO.none _
      | refine LeO.ite ?_ ?_
      | refine LeO.bind ?_ (fun _ => ?_)
set_option maxHeartbeats 8000000 in
set_option maxRecDepth 100000 in
theorem sat_Clip.calls (k : Nat) (a0 : Int) (r : Int) (w : World) (h : sat_Clip.f k a0 = some r) :
    Calls Tryz.prog 45 #[.int .i64 a0] w fun e w' => e = .returned (.int .i64 r) ∧ Drawn0 w w' := by
  have H : ((sat_Bound.f k a0 (-2305843009213693952) 2305843009213693952).bind fun t101 => (some t101)) = some r := h
  clear h
  replace H := Option.bind_eq_some_iff.mp H
  obtain ⟨t101, A20, H⟩ := H
  replace H : (some t101) = some r := H
  have A2 := Aside0.mk A20
  clear A20
  obtain rfl := Option.some.inj H
  go_enter Tryz.func45, Tryz.ntmps45
  go_wp2_with (first | ((with_reducible refine gate_callee (f := 46) rfl ?_); refine goesL_ (some 4) rfl rfl Tryz.func46 (by kernel_rfl) rfl #[.int .i64 a0, .int .i64 (-2305843009213693952), .int .i64 2305843009213693952] rfl (by (try simp only [List.map_toArray, List.map_cons, List.map_nil]); first | done | rfl | (simp only [List.length_drop, List.length_take]; rfl)) ?_; (with_reducible refine (sat_Bound.calls k a0 (-2305843009213693952) 2305843009213693952 t101 _ A2.out).mono ?_); rintro e w' ⟨rfl, ⟨nd, rfl⟩⟩; refine ⟨_, rfl, ?_⟩))
  go_ret
  exact ⟨by first | rfl | (simp; done) | (simp [*]; done), by repeat (first | exact Drawn0.refl _ | apply Drawn0.step)⟩
def span_Of.f (k : Nat) (a0 : Int) (a1 : Int) : Option (Int × Int) := (sat_Clip.f k a0).bind fun t103 => ((sat_Clip.f k a1).bind fun t104 => (some (t103, t104)))
theorem span_Of.mono : ∀ a0 a1 k, LeO (span_Of.f k a0 a1) (span_Of.f (k + 1) a0 a1) := by
  intro a0 a1 k
  unfold span_Of.f
  repeat' first
      | (with_reducible exact sat_Clip.mono _ _)
      | (with_reducible exact LeO.refl _)
      | (with_reducible exact LeO.none _)
      | (with_reducible refine LeO.ite ?_ ?_)
      | (with_reducible refine LeO.bind ?_ (fun _ => ?_))
      | exact sat_Clip.mono _ _
      | exact LeO.none _
      | refine LeO.ite ?_ ?_
      | refine LeO.bind ?_ (fun _ => ?_)
set_option maxHeartbeats 8000000 in
set_option maxRecDepth 100000 in
theorem span_Of.calls (k : Nat) (a0 : Int) (a1 : Int) (r1 : Int) (r2 : Int) (w : World) (h : span_Of.f k a0 a1 = some (r1, r2)) :
    Calls Tryz.prog 42 #[.int .i64 a0, .int .i64 a1] w fun e w' => e = .returned (.agg #[.int .i64 r1, .int .i64 r2]) ∧ Below w.heap.size w w' := by
  have hu25 := Tryz.underlying25
  have HB := Aside0.mk (Below.refl w.heap.size w)
  have H : ((sat_Clip.f k a0).bind fun t103 => ((sat_Clip.f k a1).bind fun t104 => (some (t103, t104)))) = some (r1, r2) := h
  clear h
  replace H := Option.bind_eq_some_iff.mp H
  obtain ⟨t103, A30, H⟩ := H
  replace H : ((sat_Clip.f k a1).bind fun t104 => (some (t103, t104))) = some (r1, r2) := H
  have A3 := Aside0.mk A30
  clear A30
  replace H := Option.bind_eq_some_iff.mp H
  obtain ⟨t104, A40, H⟩ := H
  replace H : (some (t103, t104)) = some (r1, r2) := H
  have A4 := Aside0.mk A40
  clear A40
  simp only [Option.some.injEq, Prod.mk.injEq] at H
  obtain ⟨rfl, rfl⟩ := H
  go_enter Tryz.func42, Tryz.ntmps42
  go_wp2_with (first | ((with_reducible refine gate_dst (N := 4) rfl ?_); refine box_event ?hg (N := 4) ?hd (cs := #[.int .i64 0, .int .i64 0]) (t := 25) ?hr ?_; (case hd => rfl); (case hg => rfl); (case hr => first | (go_simp; done) | (go_simp; rfl)); intro gb102 hg w5 hbox hb; have n0_ := Aside0.mk (below_step (by repeat (first | (with_reducible first | exact HB.out | apply below_alloc | apply pw_below_drewN | apply below_drew1) | exact HB.out)) hb); have n1_ := Aside0.mk (hbox); have n2_ := Aside0.mk ((by rw [hg]; exact (below_size (by repeat (first | (with_reducible first | exact HB.out | apply below_alloc | apply pw_below_drewN | apply below_drew1) | exact HB.out))) : w.heap.size ≤ gb102)); have n3_ := Aside0.mk ((by rw [hg]; exact (below_size (by repeat (first | (with_reducible first | exact HB.out | apply below_alloc | apply pw_below_drewN | apply below_drew1) | exact HB.out))) : w.heap.size ≤ gb102)); clear HB; have HB := n0_; have BK102 := n1_; have GW102 := n2_; have GE102 := n3_; clear n0_ n1_ n2_ n3_; clear hb hbox hg) | ((with_reducible refine gate_callee (f := 45) rfl ?_); refine goesL_ (some 6) rfl rfl Tryz.func45 (by kernel_rfl) rfl #[.int .i64 a0] rfl (by (try simp only [List.map_toArray, List.map_cons, List.map_nil]); first | done | rfl | (simp only [List.length_drop, List.length_take]; rfl)) ?_; (with_reducible refine (sat_Clip.calls k a0 t103 _ A3.out).mono ?_); rintro e w' ⟨rfl, ⟨nd, rfl⟩⟩; refine ⟨_, rfl, ?_⟩; (try (rw [drewN_self w5]; generalize hq_ : World.drewN w5 _ = w5; have n0_ : Aside0 (w5.heap[gb102]? = some (.cells #[.int .i64 0, .int .i64 0] 25 (0, 0))) := ⟨by rw [← hq_]; exact (by (with_reducible repeat (first | refine blk_drewN ?_ _ | refine blk_drew ?_ | refine blk_alloc ?_ _)); exact BK102.out)⟩; have n1_ : Aside0 (Below w.heap.size w w5) := ⟨by rw [← hq_]; exact (by repeat (first | (with_reducible first | exact HB.out | apply below_alloc | apply pw_below_drewN | apply below_drew1 | refine below_set ?_ GE102.out) | exact HB.out))⟩; clear BK102 HB hq_; have BK102 := n0_; have HB := n1_; clear n0_ n1_))) | ((with_reducible refine gate_callee (f := 45) rfl ?_); refine goesL_ (some 8) rfl rfl Tryz.func45 (by kernel_rfl) rfl #[.int .i64 a1] rfl (by (try simp only [List.map_toArray, List.map_cons, List.map_nil]); first | done | rfl | (simp only [List.length_drop, List.length_take]; rfl)) ?_; (with_reducible refine (sat_Clip.calls k a1 t104 _ A4.out).mono ?_); rintro e w' ⟨rfl, ⟨nd, rfl⟩⟩; refine ⟨_, rfl, ?_⟩; (try (rw [drewN_self w5]; generalize hq_ : World.drewN w5 _ = w5; have n0_ : Aside0 (w5.heap[gb102]? = some (.cells #[.int .i64 0, .int .i64 0] 25 (0, 0))) := ⟨by rw [← hq_]; exact (by (with_reducible repeat (first | refine blk_drewN ?_ _ | refine blk_drew ?_ | refine blk_alloc ?_ _)); exact BK102.out)⟩; have n1_ : Aside0 (Below w.heap.size w w5) := ⟨by rw [← hq_]; exact (by repeat (first | (with_reducible first | exact HB.out | apply below_alloc | apply pw_below_drewN | apply below_drew1 | refine below_set ?_ GE102.out) | exact HB.out))⟩; clear BK102 HB hq_; have BK102 := n0_; have HB := n1_; clear n0_ n1_)); have hcz6_0 : w5.cell? ⟨gb102, 0, none⟩ = some (.int .i64 0) := (blk_cell BK102.out 0).trans rfl; have hcz6_1 : w5.cell? ⟨gb102, 1, none⟩ = some (.int .i64 0) := (blk_cell BK102.out 1).trans rfl; have hfz6_0 := blk_frozen BK102.out 0; have hfz6_1 := blk_frozen BK102.out 1))
  refine bodyPost_ret (results_cell_row rfl _ _ gb102 25 #[.int .i64 t103, .int .i64 t104] (0, 0) _ rfl (by (with_reducible repeat (first | refine blk_drewN ?_ _ | refine blk_drew ?_ | refine blk_alloc ?_ _)); refine blk_put (cs := #[.int .i64 t103, .int .i64 0]) ?_ 1 _ rfl; (with_reducible repeat (first | refine blk_drewN ?_ _ | refine blk_drew ?_ | refine blk_alloc ?_ _)); refine blk_put (cs := #[.int .i64 0, .int .i64 0]) ?_ 0 _ rfl; (with_reducible repeat (first | refine blk_drewN ?_ _ | refine blk_drew ?_ | refine blk_alloc ?_ _)); exact BK102.out) Tryz.underlying25 rfl (by kernel_rfl)) rfl ?_
  exact ⟨by first | rfl | (simp [errW_none, errW_some] <;> rfl) | (simp [*, errW_none, errW_some] <;> rfl), by repeat (first | (with_reducible first | exact HB.out | apply below_alloc | apply pw_below_drewN | apply below_drew1 | refine below_set ?_ GE102.out) | exact HB.out)⟩
def cmp_isNaN_int.f (a0 : Int) : Option (Bool) := some (a0 != a0)
set_option maxHeartbeats 8000000 in
set_option maxRecDepth 100000 in
theorem cmp_isNaN_int.calls (a0 : Int) (r : Bool) (w : World) (h : cmp_isNaN_int.f a0 = some r) :
    Calls Tryz.prog 181 #[.int .i64 a0] w fun e w' => e = .returned (.bool r) ∧ Drawn0 w w' := by
  have H : (some (a0 != a0)) = some r := h
  clear h
  obtain rfl := Option.some.inj H
  go_enter Tryz.func181, Tryz.ntmps181
  go_wp2
  go_ret
  exact ⟨by first | rfl | (simp; done) | (simp [*]; done), by repeat (first | exact Drawn0.refl _ | apply Drawn0.step)⟩
def cmp_Less_int.f (a0 : Int) (a1 : Int) : Option (Bool) := (cmp_isNaN_int.f a0).bind fun t105 => (if t105 = true then ((cmp_isNaN_int.f a1).bind fun t106 => (if t106 = true then (some (decide (a0 < a1))) else (some true))) else (some (decide (a0 < a1))))
set_option maxHeartbeats 8000000 in
set_option maxRecDepth 100000 in
theorem cmp_Less_int.calls (a0 : Int) (a1 : Int) (r : Bool) (w : World) (h : cmp_Less_int.f a0 a1 = some r) :
    Calls Tryz.prog 155 #[.int .i64 a0, .int .i64 a1] w fun e w' => e = .returned (.bool r) ∧ Drawn0 w w' := by
  have H : ((cmp_isNaN_int.f a0).bind fun t105 => (if t105 = true then ((cmp_isNaN_int.f a1).bind fun t106 => (if t106 = true then (some (decide (a0 < a1))) else (some true))) else (some (decide (a0 < a1))))) = some r := h
  clear h
  replace H := Option.bind_eq_some_iff.mp H
  obtain ⟨t105, A30, H⟩ := H
  replace H : (if t105 = true then ((cmp_isNaN_int.f a1).bind fun t106 => (if t106 = true then (some (decide (a0 < a1))) else (some true))) else (some (decide (a0 < a1)))) = some r := H
  have A3 := Aside0.mk A30
  clear A30
  by_cases c4 : t105 = true
  · subst c4
    have H1 : ((cmp_isNaN_int.f a1).bind fun t106 => (if t106 = true then (some (decide (a0 < a1))) else (some true))) = some r := by rw [if_pos rfl] at H; exact H
    clear H
    have H := H1
    clear H1
    replace H := Option.bind_eq_some_iff.mp H
    obtain ⟨t106, A50, H⟩ := H
    replace H : (if t106 = true then (some (decide (a0 < a1))) else (some true)) = some r := H
    have A5 := Aside0.mk A50
    clear A50
    by_cases c6 : t106 = true
    · subst c6
      have H1 : (some (decide (a0 < a1))) = some r := by rw [if_pos rfl] at H; exact H
      clear H
      have H := H1
      clear H1
      obtain rfl := Option.some.inj H
      go_enter Tryz.func155, Tryz.ntmps155
      go_wp2_with (first | ((with_reducible refine gate_callee (f := 181) rfl ?_); refine goesL_ (some 6) rfl rfl Tryz.func181 (by kernel_rfl) rfl #[.int .i64 a0] rfl (by (try simp only [List.map_toArray, List.map_cons, List.map_nil]); first | done | rfl | (simp only [List.length_drop, List.length_take]; rfl)) ?_; (with_reducible refine (cmp_isNaN_int.calls a0 true _ A3.out).mono ?_); rintro e w' ⟨rfl, ⟨nd, rfl⟩⟩; refine ⟨_, rfl, ?_⟩) | (go_at_call 181; (with_reducible refine (cmp_isNaN_int.calls a1 true _ A5.out).mono ?_); rintro e w' ⟨rfl, ⟨nd, rfl⟩⟩))
      go_ret
      exact ⟨by first | rfl | (simp; done) | (simp [*]; done), by repeat (first | exact Drawn0.refl _ | apply Drawn0.step)⟩
    · replace c6 := Bool.eq_false_iff.mpr c6
      subst c6
      have H1 : (some true) = some r := by rw [if_neg (show ¬ (false = true) by decide)] at H; exact H
      clear H
      have H := H1
      clear H1
      obtain rfl := Option.some.inj H
      go_enter Tryz.func155, Tryz.ntmps155
      go_wp2_with (first | ((with_reducible refine gate_callee (f := 181) rfl ?_); refine goesL_ (some 6) rfl rfl Tryz.func181 (by kernel_rfl) rfl #[.int .i64 a0] rfl (by (try simp only [List.map_toArray, List.map_cons, List.map_nil]); first | done | rfl | (simp only [List.length_drop, List.length_take]; rfl)) ?_; (with_reducible refine (cmp_isNaN_int.calls a0 true _ A3.out).mono ?_); rintro e w' ⟨rfl, ⟨nd, rfl⟩⟩; refine ⟨_, rfl, ?_⟩) | (go_at_call 181; (with_reducible refine (cmp_isNaN_int.calls a1 false _ A5.out).mono ?_); rintro e w' ⟨rfl, ⟨nd, rfl⟩⟩))
      go_ret
      exact ⟨by first | rfl | (simp; done) | (simp [*]; done), by repeat (first | exact Drawn0.refl _ | apply Drawn0.step)⟩
  · replace c4 := Bool.eq_false_iff.mpr c4
    subst c4
    have H1 : (some (decide (a0 < a1))) = some r := by rw [if_neg (show ¬ (false = true) by decide)] at H; exact H
    clear H
    have H := H1
    clear H1
    obtain rfl := Option.some.inj H
    go_enter Tryz.func155, Tryz.ntmps155
    go_wp2_with (first | ((with_reducible refine gate_callee (f := 181) rfl ?_); refine goesL_ (some 6) rfl rfl Tryz.func181 (by kernel_rfl) rfl #[.int .i64 a0] rfl (by (try simp only [List.map_toArray, List.map_cons, List.map_nil]); first | done | rfl | (simp only [List.length_drop, List.length_take]; rfl)) ?_; (with_reducible refine (cmp_isNaN_int.calls a0 false _ A3.out).mono ?_); rintro e w' ⟨rfl, ⟨nd, rfl⟩⟩; refine ⟨_, rfl, ?_⟩))
    go_ret
    exact ⟨by first | rfl | (simp; done) | (simp [*]; done), by repeat (first | exact Drawn0.refl _ | apply Drawn0.step)⟩
end Go.Proofs.YtdaohldmojpihaaGreatDoor.X

namespace Go.Proofs.YtdaohldmojpihaaGreatDoorRo
open Go.Proofs.YtdaohldmojpihaaGreatDoorW.PrintWords Go.ChangeShapes Go.WideShapes
structure Opn {α : Type} (P : Program) (d : Kd α) (t : TypeId) (wf : α → Prop) : Prop where
  sz : P.cellsOf t = d.sz
  op : ∀ {H : Type} {enc : TypeId × Value → H} {w : World} {base : Nat} {spare : Nat → Bool} {held : Bool} {fuel : Nat} {cs : List Value} {x : DataW H × List MemPlace},
    DataW.trod enc P w base spare held fuel t cs = some x → (∀ n ∈ x.1.weights P t, n ≤ reachBytes) → ∃ a : α, d.K w a cs ∧ wf a
theorem Opn.int {P : Program} {t : TypeId} {k : IntKind} (ht : P.underlying t = some (.int k)) (hc : P.cellsOf t = 1) : Opn P (Kd.int k) t (fun n => (Lit.int k n).wf = true) := by
  refine ⟨hc, ?_⟩
  intro H enc w base spare held fuel cs x h _
  obtain ⟨n, rfl, _, hw⟩ := DataW.trod_int ht h
  exact ⟨n, rfl, hw⟩
theorem Opn.bool {P : Program} {t : TypeId} (ht : P.underlying t = some .bool) (hc : P.cellsOf t = 1) : Opn P Kd.bool t (fun _ => True) := by
  refine ⟨hc, ?_⟩
  intro H enc w base spare held fuel cs x h _
  obtain ⟨n, rfl, _⟩ := DataW.trod_bool ht h
  exact ⟨n, rfl, trivial⟩
theorem Opn.string {P : Program} {t : TypeId} (ht : P.underlying t = some .string) (hc : P.cellsOf t = 1) : Opn P Kd.string t (fun s => s.size ≤ 140737488351232) := by
  refine ⟨hc, ?_⟩
  intro H enc w base spare held fuel cs x h hs
  obtain ⟨s, rfl, rfl, _⟩ := DataW.trod_string ht h
  refine ⟨s, rfl, ?_⟩
  have z := hs s.data.toList.length (by simp [DataW.weights])
  rw [Array.length_toList] at z
  exact z
theorem list_of {α : Type} {Q : Nat → α → Prop} : ∀ (n : Nat), (∀ i, i < n → ∃ a, Q i a) → ∃ xs : List α, xs.length = n ∧ ∀ i p, xs[i]? = some p → Q i p := by
  intro n
  induction n with
  | zero => intro _; exact ⟨[], rfl, fun i p h => by simp at h⟩
  | succ n ih =>
    intro h
    obtain ⟨xs, hl, hx⟩ := ih (fun i hi => h i (by omega))
    obtain ⟨a, ha⟩ := h n (by omega)
    refine ⟨xs ++ [a], by simp [hl], fun i p hp => ?_⟩
    rcases Nat.lt_or_ge i n with hi | hi
    · rw [List.getElem?_append_left (by omega)] at hp
      exact hx i p hp
    · rw [List.getElem?_append_right (by omega)] at hp
      have hi' : i - xs.length = 0 := by
        have := (List.getElem?_eq_some_iff.1 hp).1
        simpa using this
      rw [hi'] at hp
      have e : a = p := by simpa using hp
      subst e
      have : i = n := by omega
      subst this
      exact ha
theorem weights_all {H : Type} {P : Program} {e : TypeId} : ∀ {l : List (DataW H)} {d : DataW H}, d ∈ l → ∀ n ∈ d.weights P e, n ∈ DataW.weightsAll P e l := by
  intro l
  induction l with
  | nil => intro d h; simp at h
  | cons a l ih =>
    intro d h n hn
    simp only [DataW.weightsAll, List.mem_append]
    rcases List.mem_cons.1 h with rfl | h
    · exact .inl hn
    · exact .inr (ih h n hn)
theorem Opn.slice {α : Type} {P : Program} {t e : TypeId} {d : Kd α} {wf : α → Prop} {B : Nat} (ht : P.underlying t = some (.slice e)) (hc : P.cellsOf t = 1) (hB : P.bytesOf e = B) (hd : Opn P d e wf) :
    Opn P (Kd.slice e d) t (fun xs => xs.length ≤ maxLen ∧ xs.length * B ≤ 140737488351232 ∧ ∀ x ∈ xs, wf x) := by
  refine ⟨hc, ?_⟩
  intro H enc w base spare held fuel cs x h hs
  rcases DataW.trod_slice ht h with ⟨rfl, rfl⟩ | ⟨a, len, cap, elems, rest, m, _, rfl, rfl, hb, hl, hm, hlen, hel, _, _⟩
  · exact ⟨[], ⟨none, 0, rfl, Nat.le_refl _, rfl, by simp, fun h => by simp at h⟩, by simp, by simp, by simp⟩
  · have each : ∀ i, i < len → ∃ p : α, (∃ c, c.length = d.sz ∧ d.K w p c ∧ ∀ j u, c[j]? = some u → w.cell? (a.add (i * d.sz + j)) = some u) ∧ wf p := by
      intro i hi
      have hy : elems[i]? = some (elems[i]'(by omega)) := List.getElem?_eq_getElem (by omega)
      have hb' := hel i hi
      rw [hy, Option.bind_eq_some_iff] at hb'
      obtain ⟨c, hcs, hy'⟩ := hb'
      have hws : ∀ n ∈ (elems[i]'(by omega)).1.weights P e, n ≤ reachBytes := by
        intro n hn
        refine hs n ?_
        simp only [DataW.weights, ht, List.mem_cons, List.mem_append]
        exact .inr (.inl (weights_all (List.mem_map_of_mem (List.getElem_mem (by omega))) n hn))
      obtain ⟨p, hK, hw⟩ := hd.op hy' hws
      refine ⟨p, ⟨c, d.K_len hK, hK, ?_⟩, hw⟩
      intro j u hu
      obtain ⟨_, h2, h3⟩ := World.cells?_some hcs
      have hj : j < P.cellsOf e := by have := (List.getElem?_eq_some_iff.1 hu).1; omega
      have h4 := h3 j hj
      rw [hu, hd.sz] at h4
      rw [← h4, add_add]
    obtain ⟨xs, hxl, hxs⟩ := list_of len each
    subst hxl
    have hm' : cap ≤ 9223372036854775807 := hm
    refine ⟨xs, ⟨some a, cap, rfl, hl, rfl, by omega, fun _ => ⟨a, rfl, fun j p hj => (hxs j p hj).1⟩⟩, by omega, ?_, ?_⟩
    · have z := hs ((elems.length + rest.length) * P.bytesOf e) (by simp [DataW.weights, ht])
      rw [hB] at z
      exact Nat.le_trans (Nat.mul_le_mul_right _ (by omega)) z
    · intro p hp
      obtain ⟨i, hi⟩ := List.getElem?_of_mem hp
      exact (hxs i p hi).2
theorem Opn.iso {α β : Type} {P : Program} {t : TypeId} {d : Kd α} {wf : α → Prop} (f : β → α) (g : α → β) (hfg : ∀ x, f (g x) = x) (h : Opn P d t wf) : Opn P (Kd.iso d f) t (fun y => wf (f y)) := by
  refine ⟨h.sz, ?_⟩
  intro H enc w base spare held fuel cs x hx hs
  obtain ⟨a, hK, hw⟩ := h.op hx hs
  exact ⟨g a, by show d.K w (f (g a)) cs; rw [hfg]; exact hK, by show wf (f (g a)); rw [hfg]; exact hw⟩
structure OpnF {α : Type} (P : Program) (d : Kd α) (fs : List Field) (off : Nat) (wf : α → Prop) : Prop where
  op : ∀ {H : Type} {enc : TypeId × Value → H} {w : World} {base : Nat} {spare : Nat → Bool} {held : Bool} {m : Nat} {cs : List Value} {xs : List (DataW H × List MemPlace)},
    xs.length = fs.length → (∀ (i : Nat) (f : Field), fs[i]? = some f → DataW.trod enc P w base spare held m f.type ((cs.drop f.offset).take (P.cellsOf f.type)) = xs[i]?) →
    (∀ n ∈ DataW.weightsEach P (fs.map (·.type)) (xs.map (·.1)), n ≤ reachBytes) → ∃ a : α, d.K w a ((cs.drop off).take d.sz) ∧ wf a
theorem OpnF.one {α : Type} {P : Program} {d : Kd α} {f : Field} {off : Nat} {wf : α → Prop} (h : Opn P d f.type wf) (ho : f.offset = off) : OpnF P d [f] off wf := by
  refine ⟨?_⟩
  intro H enc w base spare held m cs xs hl hx hs
  match xs, hl with
  | [y], _ =>
    have h0 := hx 0 f rfl
    rw [ho, h.sz] at h0
    exact h.op h0 (fun n hn => hs n (by simp [DataW.weightsEach, hn]))
theorem OpnF.cons {α β : Type} {P : Program} {a : Kd α} {b : Kd β} {f : Field} {fs : List Field} {off : Nat} {wa : α → Prop} {wb : β → Prop} (h : Opn P a f.type wa) (ho : f.offset = off) (hr : OpnF P b fs (off + a.sz) wb) :
    OpnF P (Kd.pair a b) (f :: fs) off (fun x => wa x.1 ∧ wb x.2) := by
  refine ⟨?_⟩
  intro H enc w base spare held m cs xs hl hx hs
  match xs, hl with
  | y :: ys, hl =>
    have h0 := hx 0 f rfl
    rw [ho, h.sz] at h0
    obtain ⟨x, hK, hw⟩ := h.op h0 (fun n hn => hs n (by simp [DataW.weightsEach, hn]))
    obtain ⟨z, hK2, hw2⟩ := hr.op (xs := ys) (cs := cs) (by simpa using hl) (fun i f' hf => hx (i + 1) f' hf) (fun n hn => hs n (by
      simp only [List.map_cons, DataW.weightsEach, List.mem_append]
      exact .inr hn))
    refine ⟨(x, z), ⟨_, _, ?_, hK, hK2⟩, hw, hw2⟩
    show (cs.drop off).take (a.sz + b.sz) = _
    rw [List.take_add, List.drop_drop]
theorem Opn.struct {α : Type} {P : Program} {d : Kd α} {t : TypeId} {fs : Array Field} {wf : α → Prop} (ht : P.underlying t = some (.struct fs)) (hc : P.cellsOf t = d.sz) (h : OpnF P d fs.toList 0 wf) : Opn P d t wf := by
  refine ⟨hc, ?_⟩
  intro H enc w base spare held fuel cs x hx hs
  obtain ⟨xs, n, _, rfl, hl, hxl, hf⟩ := DataW.trod_struct ht hx
  obtain ⟨a, hK, hw⟩ := h.op (xs := xs) (cs := cs) (by simpa using hxl) (fun i f hi => hf i f (by simpa using hi)) (fun n hn => hs n (by simpa [DataW.weights, ht] using hn))
  refine ⟨a, ?_, hw⟩
  rw [List.drop_zero, ← hc, ← hl, List.take_length] at hK
  exact hK
theorem open_any {α : Type} {P : Program} {d : Kd α} {t : TypeId} {wf : α → Prop} (ho : Opn P d t wf) {H : Type} {enc : TypeId × Value → H} {w : World} {base : Nat} {spare : Nat → Bool} {held : Bool} {v : Value} {x : DataW H} {ps : List MemPlace} {ts : List TypeId} {ds : List (DataW H)} {j : Nat}
    (hsz : (DataW.weightsEach P ts ds).all (· ≤ reachBytes) = true) (ht : ts[j]? = some t) (hd : ds[j]? = some x) (h : DataW.Trod enc P w base spare held t v x ps) : ∃ a : α, d.K w a v.cells.toList ∧ wf a := by
  obtain ⟨fuel, hf⟩ := h
  exact ho.op hf (fun n hn => by simpa using List.all_eq_true.1 hsz n (DataW.weights_mem_each ht hd n hn))
theorem trod_lt' {H : Type} {enc : TypeId × Value → H} {P : Program} {w : World} {base : Nat} {spare : Nat → Bool} {held : Bool} {t : TypeId} {v : Value} {x : DataW H} {ps : List MemPlace} (h : DataW.Trod enc P w base spare held t v x ps) : ∀ y ∈ ps, y.block < w.heap.size := by
  obtain ⟨m, hm⟩ := h
  exact DataW.trod_lt m _ _ _ hm
theorem agg_cells {P : Program} {w : World} {r : Reach} {base : Nat} {t : TypeId} {v : Value} {fs : Array Field} {l : List Value} (hu : P.underlying t = some (.struct fs)) (hv : Value.okWide P w r base t v) (hl : v.cells.toList = l) : v = .agg l.toArray := by
  obtain ⟨cs, rfl, _⟩ := okWide_struct hu hv
  subst hl
  rfl
end Go.Proofs.YtdaohldmojpihaaGreatDoorRo

namespace Go.Proofs.YtdaohldmojpihaaGreatDoor.G
open Go.RowKit Go.Proofs.YtdaohldmojpihaaGreatDoorW.PrintWords Go.Proofs.YtdaohldmojpihaaGreatDoorW.PrintLast Go.Proofs.YtdaohldmojpihaaGreatDoorW.PrintMore Go.Proofs.YtdaohldmojpihaaGreatDoorPl Go.Proofs.YtdaohldmojpihaaGreatDoorEm Go.Proofs.YtdaohldmojpihaaGreatDoorKr Go.Proofs.YtdaohldmojpihaaGreatDoorRz Go.Proofs.YtdaohldmojpihaaGreatDoor.X Go.Proofs.YtdaohldmojpihaaGreatDoorAy
set_option linter.unusedVariables false
set_option linter.unusedSimpArgs false
abbrev Hrd := S45
structure Hd where
  kind : Int
  frm : Int
  lo : Int
  hi : Int
  held : Int
  hops : Int
  good : Bool
  ref : Bool
  slo : Int
  shi : Int
  pulse : Int
  st : Int
  sn : Int
  A : Option Addr
  n : Nat
  c : Nat
  age : Int
deriving Inhabited
def encH (h : Hd) : List Value := [.int .i64 h.kind, .int .i64 h.frm, .int .i64 h.lo, .int .i64 h.hi, .int .i64 h.held, .int .i64 h.hops, .bool h.good, .bool h.ref, .int .i64 h.slo, .int .i64 h.shi, .int .i64 h.pulse, .int .i64 h.st, .int .i64 h.sn, .slice h.A h.n h.c, .int .i64 h.age]
theorem encH_len (h : Hd) : (encH h).length = 15 := rfl
theorem encH_one (h : Hd) : ∀ v ∈ encH h, v.oneCell' = true := by
  intro v hv
  simp only [encH, List.mem_cons, List.not_mem_nil, or_false] at hv
  rcases hv with rfl | rfl | rfl | rfl | rfl | rfl | rfl | rfl | rfl | rfl | rfl | rfl | rfl | rfl | rfl <;> rfl
def flH (l : List Hd) : List Value := l.flatMap encH
theorem flH_snoc (l : List Hd) (x : Hd) : flH (l ++ [x]) = flH l ++ encH x := by unfold flH; rw [List.flatMap_append]; simp
theorem flH_length : ∀ l : List Hd, (flH l).length = l.length * 15
  | [] => rfl
  | x :: l => by
    show (encH x ++ flH l).length = _
    rw [List.length_append, encH_len, flH_length l, List.length_cons]; omega
theorem flH_at : ∀ (l : List Hd) (j i : Nat) (q : Hd) (u : Value), l[j]? = some q → (encH q)[i]? = some u → (flH l)[j * 15 + i]? = some u
  | [], j, i, q, u, h, _ => by simp at h
  | x :: l, 0, i, q, u, h, hu => by
    simp at h
    subst h
    rw [show 0 * 15 + i = i by omega]
    show (encH x ++ flH l)[i]? = some u
    rw [List.getElem?_append_left (List.getElem?_eq_some_iff.1 hu).1]
    exact hu
  | x :: l, j + 1, i, q, u, h, hu => by
    have := flH_at l j i q u (by simpa using h) hu
    rw [show (j + 1) * 15 + i = (encH x).length + (j * 15 + i) by rw [encH_len]; omega]
    show (encH x ++ flH l)[(encH x).length + (j * 15 + i)]? = some u
    rw [List.getElem?_append_right (by omega)]
    simpa using this
def RowH (w : World) (A : Option Addr) (l : List Hd) : Prop := ∀ k (hk : k < l.length), ∃ ad, A = some ad ∧ ∀ j u, (encH l[k])[j]? = some u → w.cell? ((ad.add (k * 15)).add j) = some u
theorem RowH.below {w w' : World} {A : Option Addr} {l : List Hd} (h : RowH w A l) (hb : Below w.heap.size w w') : RowH w' A l := fun k hk => by
  obtain ⟨ad, e, hc⟩ := h k hk
  exact ⟨ad, e, fun j u hu => pw_cell_below hb (hc j u hu)⟩
theorem rowH_own {W : World} {b n c : Nat} {A : Option Addr} {l : List Hd} (h : W.ownsRow b 45 15 (.slice A n c) n (flH l)) : RowH W A l := by
  intro k hk
  obtain ⟨h1, ⟨h2, h3⟩ | ⟨g, cap, cur, h2, h3, h4, h5, h6, h7, h8⟩⟩ := h
  · rw [flH_length] at h1; omega
  · injection h2 with e1
    refine ⟨⟨g, 0, none⟩, e1, fun j u hu => ?_⟩
    rw [add_add]
    rw [show ((⟨g, 0, none⟩ : Addr).add (k * 15 + j)) = ⟨g, k * 15 + j, none⟩ by
      unfold Addr.add
      split
      · rename_i h0; simp at h0; obtain ⟨e1, e2⟩ := h0; rw [show k * 15 + j = 0 by omega]
      · simp, blk_cell h4]
    have e : (flH l)[k * 15 + j]? = some u := flH_at l k j l[k] u (List.getElem?_eq_getElem hk) hu
    rw [← h8, List.getElem?_take] at e
    split at e
    · simpa using e
    · cases e
def hdOf (x : Hrd) (A : Option Addr) (c : Nat) : Hd := ⟨x.f0.f0, x.f0.f1, x.f0.f2.f0, x.f0.f2.f1, x.f0.f3, x.f0.f4, x.f0.f5, x.f0.f6, x.f0.f7.f0, x.f0.f7.f1, x.f0.f8, x.f0.f9.f0, x.f0.f9.f1, A, x.f0.f10.length, c, x.f1⟩
theorem rowH_in {w : World} {A : Option Addr} {l : List Hrd} (h : Kd.C k45 w A l.length l) : ∃ hs : List Hd, hs.length = l.length ∧ (∀ k (hk : k < hs.length) (hl : k < l.length), ∃ A c, hs[k] = hdOf l[k] A c ∧ l[k].f0.f10.length ≤ c ∧ Kd.C k72 w A l[k].f0.f10.length l[k].f0.f10) ∧ RowH w A hs := by
  have each : ∀ k, k < l.length → ∃ x : Hd, ∃ (hl : k < l.length), (∃ A1 c, x = hdOf l[k] A1 c ∧ l[k].f0.f10.length ≤ c ∧ Kd.C k72 w A1 l[k].f0.f10.length l[k].f0.f10) ∧ ∃ ad, A = some ad ∧ ∀ j u, (encH x)[j]? = some u → w.cell? ((ad.add (k * 15)).add j) = some u := by
    intro k hk
    obtain ⟨ad, c, e, _, hK, hc⟩ := Kd.C_get h z45 k (by omega) (by omega)
    have hg : l.getD (k : Int).toNat z45 = l[k] := by simp [List.getD_eq_getElem?_getD, hk]
    rw [hg] at hK
    obtain ⟨A1, c1, e2, e3, e4⟩ := k45_open hK
    refine ⟨hdOf l[k] A1 c1, hk, ⟨A1, c1, rfl, e3, e4⟩, ad, e, fun j u hu => ?_⟩
    rw [add_add]
    have := hc j u (by rw [e2]; exact hu)
    rw [show (k : Int).toNat = k by omega] at this
    exact this
  obtain ⟨hs, h1, h2⟩ := Go.Proofs.YtdaohldmojpihaaGreatDoorRo.list_of (Q := fun k x => ∃ (hl : k < l.length), (∃ A1 c, x = hdOf l[k] A1 c ∧ l[k].f0.f10.length ≤ c ∧ Kd.C k72 w A1 l[k].f0.f10.length l[k].f0.f10) ∧ ∃ ad, A = some ad ∧ ∀ j u, (encH x)[j]? = some u → w.cell? ((ad.add (k * 15)).add j) = some u) l.length each
  refine ⟨hs, h1, fun k hk hl => ?_, fun k hk => ?_⟩
  · obtain ⟨_, h3, _⟩ := h2 k hs[k] (List.getElem?_eq_getElem hk)
    exact h3
  · obtain ⟨_, _, h3⟩ := h2 k hs[k] (List.getElem?_eq_getElem hk)
    exact h3
set_option maxRecDepth 100000 in
set_option maxHeartbeats 1000000 in
theorem Told1_calls (x : Hd) (gm : Nat) (mf : Int) (w : World) (h : w.cell? ⟨gm, 1, none⟩ = some (.int .i64 mf)) : Calls Tryz.prog 120 #[.agg (encH x).toArray, .pointer (some ⟨gm, 0, none⟩)] w fun e w' => e = .returned (.bool (x.frm == mf)) ∧ Below w.heap.size w w' := by
  have H := Fr.start0 (M := fun _ => False) (A := fun _ => False) (w := w) (p := fun W => W.cell? ⟨gm, 1, none⟩ = some (.int .i64 mf)) (fun _ h => h.elim) (fun W hW => by
    have hb : Below w.heap.size w { w with heap := W.heap } → True := fun _ => trivial
    have hg := World.block_lt_of_cell? w _ h
    have e := hW gm id hg
    unfold World.cell? at h ⊢
    rw [← h]
    simp only [e])
  obtain ⟨kind, frm, lo, hi, held, hops, good, ref, slo, shi, pulse, st, sn, A, n, c, age⟩ := x
  simp only [encH]
  clear h
  go_enter Tryz.func120, Tryz.ntmps120
  go_wp2_with (first
    | ((with_reducible refine gate_dst (N := 8) rfl ?_); refine load_cell rfl rfl rfl Tryz.underlying3 rfl H.now ?_)
    | ((with_reducible refine gate_dst (N := 2) rfl ?_); refine nB H ?_; intro g2 w2 H1; replace H := H1)
    | ((with_reducible refine gL rfl ?_); refine xL H ?_)
    | fail)
  go_ret
  exact ⟨rfl, H.below⟩
set_option maxRecDepth 100000 in
set_option maxHeartbeats 4000000 in
theorem IndexH_calls (A : Option Addr) (c : Nat) (l : List Hd) (gm : Nat) (mf : Int) (w : World) (hr : RowH w A l) (hl : l.length ≤ 9223372036854775807) (hm : w.cell? ⟨gm, 1, none⟩ = some (.int .i64 mf)) :
    Calls Tryz.prog 117 #[.slice A l.length c, .func (.func 120) #[] #[.pointer (some ⟨gm, 0, none⟩)]] w fun e w' => ∃ i : Int, e = .returned (.int .i64 i) ∧ Hid (decide (0 ≤ i) = l.any (fun x => x.frm == mf)) ∧ Hid (Below w.heap.size w w') := by
  have R := Lib.hid hr
  have HM := Lib.hid hm
  obtain ⟨n, hn⟩ : ∃ n, l.length = n := ⟨_, rfl⟩
  have HN := Lib.hid hn
  rw [hn] at hl ⊢
  clear hr hn hm
  go_enter Tryz.func117, Tryz.ntmps117
  go_wp2
  go_loopw [8] (fun v8 wr => ∃ k : Nat, k ≤ n ∧ v8 = .int .i64 k ∧ Hid (∀ x ∈ l.take k, (x.frm == mf) = false) ∧ Hid (Below w.heap.size w wr)) (fun v8 _ => n - (intOf v8).toNat)
  case atStart => exact ⟨0, by omega, rfl, Lib.hid (fun x hx => by simp at hx), Lib.hid (Below.refl _ _)⟩
  case round =>
    obtain ⟨k, hk, rfl, HQ, HB⟩ := hrel
    by_cases hlt : k < n
    · have hkl : k < l.length := by rw [HN.out]; exact hlt
      have hk1 : (k : Int) < (n : Int) := by omega
      have hs1 : -9223372036854775808 ≤ (k : Int) + 1 := by omega
      have hs2 : (k : Int) + 1 ≤ 9223372036854775807 := by omega
      obtain ⟨x, hx⟩ : ∃ x, l[k] = x := ⟨_, rfl⟩
      obtain ⟨ad, e, hc⟩ := (R.out.below HB.out) k hkl
      cases e
      rw [hx] at hc
      have HC := Lib.hid hc
      have HX : Hid (l.take (k + 1) = l.take k ++ [x]) := Lib.hid (by rw [List.take_succ_eq_append_getElem hkl, hx])
      have HME : Hid (x ∈ l) := Lib.hid (hx ▸ List.getElem_mem hkl)
      obtain ⟨b, hb⟩ : ∃ b, (x.frm == mf) = b := ⟨_, rfl⟩
      have HB2 := Lib.hid hb
      have HD : Hid (∀ W, Below w.heap.size w W → Calls Tryz.prog 120 #[.agg (encH x).toArray, .pointer (some ⟨gm, 0, none⟩)] W fun e w' => e = .returned (.bool b) ∧ Below W.heap.size W w') := Lib.hid (fun W h => hb ▸ Told1_calls x gm mf W (pw_cell_below h HM.out))
      have HLE : Hid ((encH x).length = 15) := Lib.hid rfl
      generalize encH x = cs at HC HD HLE
      clear hx hb hc
      cases b with
      | false =>
        go_wp2_with (first
          | ((with_reducible refine gate_dst (N := 15) rfl ?_); refine load_cells rfl rfl (ad := ad.add (k * 15)) (cs := cs) ?hx Tryz.underlying45 rfl (by rw [HLE.out]; kernel_rfl) HC.out ?_; (case hx => first | rfl | (go_simp; done) | (go_simp; rfl))))
        refine (HD.out _ HB.out).mono ?_
        rintro e w' ⟨rfl, hb⟩
        go_wp2
        go_roundw
        case rel => exact ⟨k + 1, by omega, by simp, Lib.hid (fun y hy => by
          rw [HX.out] at hy
          rcases List.mem_append.1 hy with hy | hy
          · exact HQ.out y hy
          · rw [List.mem_singleton.1 hy]; exact HB2.out), Lib.hid (HB.out.trans (hb.mono HB.out.size))⟩
        case measure => simp [intOf]; omega
      | true =>
        go_wp2_with (first
          | ((with_reducible refine gate_dst (N := 15) rfl ?_); refine load_cells rfl rfl (ad := ad.add (k * 15)) (cs := cs) ?hx Tryz.underlying45 rfl (by rw [HLE.out]; kernel_rfl) HC.out ?_; (case hx => first | rfl | (go_simp; done) | (go_simp; rfl))))
        refine (HD.out _ HB.out).mono ?_
        rintro e w' ⟨rfl, hb⟩
        go_wp2
        go_ret
        refine ⟨_, rfl, Lib.hid ?_, Lib.hid (HB.out.trans (hb.mono HB.out.size))⟩
        rw [List.any_eq_true.2 ⟨x, HME.out, HB2.out⟩]
        exact decide_eq_true (Int.natCast_nonneg k)
    · obtain rfl : k = n := by omega
      go_wp2
      go_ret
      refine ⟨_, rfl, Lib.hid ?_, HB⟩
      have : l.any (fun x => x.frm == mf) = false := List.any_eq_false.2 (fun x hx => by rw [HQ.out x (by rw [List.take_of_length_le (by rw [HN.out]; exact Nat.le_refl _)]; exact hx)]; simp)
      rw [this]
      rfl
set_option maxRecDepth 100000 in
set_option maxHeartbeats 4000000 in
theorem ContainsH_calls (A : Option Addr) (c : Nat) (l : List Hd) (gm : Nat) (mf : Int) (w : World) (hr : RowH w A l) (hl : l.length ≤ 9223372036854775807) (hm : w.cell? ⟨gm, 1, none⟩ = some (.int .i64 mf)) :
    Calls Tryz.prog 65 #[.slice A l.length c, .func (.func 120) #[] #[.pointer (some ⟨gm, 0, none⟩)]] w fun e w' => e = .returned (.bool (l.any (fun x => x.frm == mf))) ∧ Below w.heap.size w w' := by
  have HI := Lib.hid (IndexH_calls A c l gm mf w hr hl hm)
  obtain ⟨n, hn⟩ : ∃ n, l.length = n := ⟨_, rfl⟩
  obtain ⟨b, hb⟩ : ∃ b, l.any (fun x => x.frm == mf) = b := ⟨_, rfl⟩
  rw [hn, hb] at HI
  rw [hn, hb]
  clear hr hl hm hn hb
  go_enter Tryz.func65, Tryz.ntmps65
  go_wp2_with (go_at_call 117; refine HI.out.mono ?_; rintro e w1 ⟨i, rfl, H1, HB⟩)
  go_ret
  exact ⟨by rw [← H1.out]; first | done | rfl, HB.out⟩
end Go.Proofs.YtdaohldmojpihaaGreatDoor.G

namespace Go.Proofs.YtdaohldmojpihaaGreatDoorRz
open Go.RowKit Go.Proofs.YtdaohldmojpihaaGreatDoorW.PrintWords Go.Proofs.YtdaohldmojpihaaGreatDoorW.PrintLast Go.Proofs.YtdaohldmojpihaaGreatDoorW.PrintMore
open Go.Proofs.YtdaohldmojpihaaGreatDoorEm (Fr Chg At Of Tr Keep Frs)
set_option linter.unusedVariables false
def ldC (c1 c2 dn : List Nat) (i j : Nat) : List Nat := (c1.take i).reverse ++ ((c2.take j).reverse ++ dn)
def stC (ops : Array Oper) (n : Nat) (c1 c2 dn : List Nat) (i j : Nat) : Bool :=
  (Region.ready .any ops (mk n (ldC c1 c2 dn i j)) == (c1.drop i).take 1 ++ (c2.drop j).take 1) &&
  (((c1.drop i).take 1).all (fun x => (mk n (ldC c1 c2 dn i j)).setIfInBounds x true == mk n (ldC c1 c2 dn (i + 1) j)) &&
  ((c2.drop j).take 1).all (fun x => (mk n (ldC c1 c2 dn i j)).setIfInBounds x true == mk n (ldC c1 c2 dn i (j + 1))))
def okC (ops : Array Oper) (n : Nat) (c1 c2 dn : List Nat) : Bool := (List.range (c1.length + 1)).all fun i => (List.range (c2.length + 1)).all fun j => (i == c1.length && j == c2.length) || stC ops n c1 c2 dn i j
theorem okC_at {ops : Array Oper} {n : Nat} {c1 c2 dn : List Nat} (h : okC ops n c1 c2 dn = true) {i j : Nat} (hi : i ≤ c1.length) (hj : j ≤ c2.length) (hn : ¬ (i = c1.length ∧ j = c2.length)) : stC ops n c1 c2 dn i j = true := by
  unfold okC at h
  have h2 := List.all_eq_true.1 (List.all_eq_true.1 h i (List.mem_range.2 (by omega))) j (List.mem_range.2 (by omega))
  rw [Bool.or_eq_true] at h2
  rcases h2 with h2 | h2
  · rw [Bool.and_eq_true, beq_iff_eq, beq_iff_eq] at h2
    exact absurd h2 hn
  · exact h2
theorem next_mem {c : List Nat} {i x : Nat} (h : x ∈ (c.drop i).take 1) : c[i]? = some x := by
  rcases Nat.lt_or_ge i c.length with hi | hi
  · rw [List.drop_eq_getElem_cons hi, List.take_succ_cons, List.take_zero, List.mem_singleton] at h
    rw [List.getElem?_eq_getElem hi, h]
  · rw [List.drop_eq_nil_of_le hi] at h
    cases h
section
variable {P : Program} {ops : Array Oper} {Q : Exit → Act → World → Prop} {S : World → Prop} {ds : List Nat} {n : Nat} {dn : List Nat}
theorem wpOp_sole {i : Nat} {o : Oper} {K : Act → World → Prop} {a : Act} {W : World} (ho : ops[i]? = some o) (hw : Region.wanted o (yielded ops a.tmps) = true) (h : Oper.wp P o a W K Q) : wpOp P ops Q i K a W := by
  unfold Go.wpOp
  simp only [ho, hw, if_true]
  exact .inl h
theorem ro_chains (c1 c2 : List Nat) {rest r : List (Nat × Oper)} (k : Nat) (I : Nat → Nat → Act → World → Prop) (hB : okC ops n c1 c2 dn = true) (hk : rest.drop k = r) (hl : rest.length = c1.length + c2.length + r.length)
    (hS : ∀ i j a w, I i j a w → S w)
    (h1 : ∀ i x j a w, c1[i]? = some x → j ≤ c2.length → I i j a w → ∃ o, (x, o) ∈ rest ∧ Region.wanted o (yielded ops a.tmps) = true ∧ ∀ K : Act → World → Prop, (∀ a' w', I (i + 1) j a' w' → K a' w') → Oper.wp P o a w K Q)
    (h2 : ∀ j x i a w, c2[j]? = some x → i ≤ c1.length → I i j a w → ∃ o, (x, o) ∈ rest ∧ Region.wanted o (yielded ops a.tmps) = true ∧ ∀ K : Act → World → Prop, (∀ a' w', I i (j + 1) a' w' → K a' w') → Oper.wp P o a w K Q)
    {a : Act} {w : World} (h0 : I 0 0 a w)
    (hend : ∀ a w, I c1.length c2.length a w → RO P ops Q S ds n (ldC c1 c2 dn c1.length c2.length) r a w) : RO P ops Q S ds n dn rest a w := fun e => by
  suffices H : ∀ (m i j : Nat) (a : Act) (w : World), i ≤ c1.length → j ≤ c2.length → (c1.length - i) + (c2.length - j) = m → I i j a w → wpAnyLast P .any ops Q S ds (m + r.length) (mk n (ldC c1 c2 dn i j)) a w by
    have := H _ 0 0 a w (Nat.zero_le _) (Nat.zero_le _) rfl h0
    rw [hl]
    exact this
  intro m
  induction m with
  | zero =>
    intro i j a w hi hj hm hI
    obtain rfl : i = c1.length := by omega
    obtain rfl : j = c2.length := by omega
    rw [Nat.zero_add]
    exact hend a w hI (fun x hx => e x (List.mem_of_mem_drop (hk ▸ hx)))
  | succ m ih =>
    intro i j a w hi hj hm hI
    have hst := okC_at hB hi hj (by omega)
    unfold stC at hst
    rw [Bool.and_eq_true, Bool.and_eq_true, beq_iff_eq] at hst
    obtain ⟨hr, hs1, hs2⟩ := hst
    rw [show m + 1 + r.length = (m + r.length) + 1 by omega]
    refine wpAnyLast_all hr (fun h => ?_) (fun x hx => ?_)
    · rcases List.append_eq_nil_iff.1 h with ⟨q1, q2⟩
      have e1 := congrArg List.length q1
      have e2 := congrArg List.length q2
      rw [List.length_take, List.length_drop, List.length_nil] at e1 e2
      omega
    · rcases List.mem_append.1 hx with hx | hx
      · have hxi := next_mem hx
        have hlt := (List.getElem?_eq_some_iff.1 hxi).1
        obtain ⟨o, ho, hw, hK⟩ := h1 i x j a w hxi hj hI
        refine wpOp_sole (e _ ho) hw (hK _ (fun a' w' h' => ⟨fun _ _ => hS _ _ _ _ h', ?_⟩))
        rw [eq_of_beq (List.all_eq_true.1 hs1 x hx)]
        exact ih (i + 1) j a' w' (by omega) hj (by omega) h'
      · have hxj := next_mem hx
        have hlt := (List.getElem?_eq_some_iff.1 hxj).1
        obtain ⟨o, ho, hw, hK⟩ := h2 j x i a w hxj hi hI
        refine wpOp_sole (e _ ho) hw (hK _ (fun a' w' h' => ⟨fun _ _ => hS _ _ _ _ h', ?_⟩))
        rw [eq_of_beq (List.all_eq_true.1 hs2 x hx)]
        exact ih i (j + 1) a' w' hi (by omega) (by omega) h'
theorem wp_append {o : Oper} {a : Act} {W : World} (s x : Operand) (t : TypeId) (ho : o.op = .call { callee := .builtin .append, args := #[s, x], argTypes := #[t, t] })
    (base : Nat) (e : TypeId) (ti : TypeInfo) (z : Value) (size bytes : Nat) (ht : P.underlying t = some (.slice e)) (hi : P.info? e = some ti) (hz : ti.zero = some z)
    (hsize : ti.size = size) (hby : ti.bytes = bytes) (hzs : z.cells.size = size) (hsz : 0 < size)
    (u : Value) (nn : Nat) (xs : List Value) (hs : a.eval s = u) (hown : W.ownsRow base e size u nn xs)
    (ad : Addr) (m c : Nat) (news : List Value) (hx : a.eval x = .slice (some ad) m c) (hl : news.length = m * size) (hnews : ∀ j q, news[j]? = some q → W.cell? (ad.add j) = some q) (h1 : ∀ q ∈ news, q.oneCell' = true)
    (h63 : nn + m ≤ maxLen) (hbytes : (nn + m) * bytes ≤ 140737488355328) (hbase : base ≤ W.heap.size) {K : Act → World → Prop}
    (h : ∀ v' w', w'.ownsRow base e size v' (nn + m) (xs ++ news) → W.grownBy w' u.ownBlock → (v'.ownBlock = u.ownBlock ∨ v'.ownBlock = some W.heap.size) → K (a.put o.dst v') w') : Oper.wp P o a W K Q := by
  obtain ⟨v', w', hr, h2, h3, h4, h5⟩ := run_append_own_at (P := P) W base t o.type e ti z size bytes ht hi hz hsize hby hzs hsz u nn xs hown ad m c news hl hnews h1 h63 hbytes hbase
  unfold Oper.wp execOp
  simp only [ho, resolve, invoke, builtin, Sem.run_bind, Sem.run_pure, Result.andThen_ok, List.map_toArray, List.map_cons, List.map_nil, hs, hx, hr]
  exact h v' w' h2 h3 h5
theorem wp_rowv {o : Oper} {a : Act} {W : World} {m : Nat} {cs : Array Value} {t : TypeId} {K : Act → World → Prop}
    (hrun : ∀ K : Result Next → Prop, Hid (K (.ok (.value (.slice (some ⟨W.heap.size, 0, none⟩) m m)) (W.alloc (.cells cs t (0, 0))))) → K ((execOp a.eval o).run P W))
    (h : ∀ w1, w1.heap[W.heap.size]? = some (.cells cs t (0, 0)) → Below W.heap.size W w1 → K (a.put o.dst (.slice (some ⟨W.heap.size, 0, none⟩) m m)) w1) : Oper.wp P o a W K Q := by
  have hr := hrun (fun r => r = .ok (.value (.slice (some ⟨W.heap.size, 0, none⟩) m m)) (W.alloc (.cells cs t (0, 0)))) (Lib.hid rfl)
  unfold Oper.wp
  rw [hr]
  exact h _ (blk_new W (.cells cs t (0, 0))) (below_alloc (Below.refl _ _) _)
end
end Go.Proofs.YtdaohldmojpihaaGreatDoorRz

namespace Go.Proofs.YtdaohldmojpihaaGreatDoorEv
open Go.RowKit Go.Proofs.YtdaohldmojpihaaGreatDoorW.PrintWords Go.Proofs.YtdaohldmojpihaaGreatDoorW.PrintLast Go.Proofs.YtdaohldmojpihaaGreatDoorW.PrintMore
section
variable {P : Program} {ops : Array Oper} {rest : List Oper} {o : Oper} {a : Act} {Q : Act → Prop} {A : Nat → Prop} {w : World} {bl bl' : List (Nat × TypeId × Array Value)} {p : World → Prop}
end
end Go.Proofs.YtdaohldmojpihaaGreatDoorEv

namespace Go.Proofs.YtdaohldmojpihaaGreatDoor.Aps
def cnt (zs : List ByteArray) (x : ByteArray) : Nat := zs.countP (fun y => decide (y = x))
theorem cnt_le (zs : List ByteArray) (x : ByteArray) : cnt zs x ≤ zs.length := List.countP_le_length
theorem cnt_take_succ (zs : List ByteArray) (k : Nat) (hk : k < zs.length) (x : ByteArray) : cnt (zs.take (k + 1)) x = cnt (zs.take k) x + if zs[k]?.getD ByteArray.empty = x then 1 else 0 := by
  unfold cnt
  rw [List.take_add_one, List.countP_append, List.getElem?_eq_getElem hk]
  simp [Option.toList, List.countP_cons]
def pick (f : Int) (zs : List ByteArray) : Nat → Int × Int
  | 0 => (-1, 0)
  | k + 1 => if f < (cnt zs (zs[k]?.getD ByteArray.empty) : Int) ∧ (pick f zs k).2 < (cnt zs (zs[k]?.getD ByteArray.empty) : Int) then ((k : Int), (cnt zs (zs[k]?.getD ByteArray.empty) : Int)) else pick f zs k
theorem pick_succ (f : Int) (zs : List ByteArray) (k : Nat) : pick f zs (k + 1) = if f < (cnt zs (zs[k]?.getD ByteArray.empty) : Int) ∧ (pick f zs k).2 < (cnt zs (zs[k]?.getD ByteArray.empty) : Int) then ((k : Int), (cnt zs (zs[k]?.getD ByteArray.empty) : Int)) else pick f zs k := rfl
theorem pick_range (f : Int) (zs : List ByteArray) : ∀ k : Nat, -1 ≤ (pick f zs k).1 ∧ (pick f zs k).1 < k ∧ 0 ≤ (pick f zs k).2 ∧ (pick f zs k).2 ≤ zs.length
  | 0 => by unfold pick; simp
  | k + 1 => by
    have := pick_range f zs k
    have h1 := cnt_le zs (zs[k]?.getD ByteArray.empty)
    rw [pick_succ]
    split
    · refine ⟨?_, ?_, ?_, ?_⟩ <;> dsimp only <;> omega
    · refine ⟨?_, ?_, ?_, ?_⟩ <;> omega
def agreed (f : Int) (zs : List ByteArray) : ByteArray × Bool := if (pick f zs zs.length).1 < 0 then (ByteArray.empty, false) else (zs[(pick f zs zs.length).1.toNat]?.getD ByteArray.empty, true)
structure Best (f : Int) (zs : List ByteArray) (k : Nat) (s : Int × Int) : Prop where
  none : s.1 < 0 → s = (-1, 0) ∧ ∀ j, j < k → (cnt zs (zs[j]?.getD ByteArray.empty) : Int) ≤ f ∨ (cnt zs (zs[j]?.getD ByteArray.empty) : Int) ≤ 0
  some : 0 ≤ s.1 → s.1.toNat < k ∧ s.2 = cnt zs (zs[s.1.toNat]?.getD ByteArray.empty) ∧ f < s.2
theorem pick_best (f : Int) (zs : List ByteArray) : ∀ k : Nat, Best f zs k (pick f zs k)
  | 0 => ⟨fun _ => ⟨rfl, fun j hj => absurd hj (by omega)⟩, fun h => absurd h (by unfold pick; decide)⟩
  | k + 1 => by
    have h := pick_best f zs k
    rw [pick_succ]
    split
    · rename_i hc
      refine ⟨fun h1 => ?_, fun _ => ?_⟩
      · dsimp only at h1
        omega
      · dsimp only
        rw [show (k : Int).toNat = k from Int.toNat_natCast k]
        exact ⟨by omega, rfl, hc.1⟩
    · rename_i hc
      refine ⟨fun h1 => ?_, fun h1 => ?_⟩
      · obtain ⟨e, g⟩ := h.none h1
        refine ⟨e, fun j hj => ?_⟩
        by_cases hjk : j = k
        · subst hjk
          rw [e] at hc
          dsimp only at hc
          omega
        · exact g j (by omega)
      · obtain ⟨e, g⟩ := h.some h1
        exact ⟨by omega, g⟩
end Go.Proofs.YtdaohldmojpihaaGreatDoor.Aps

namespace Go.Proofs.YtdaohldmojpihaaGreatDoor.G
open Go.RowKit Go.Proofs.YtdaohldmojpihaaGreatDoorW.PrintWords Go.Proofs.YtdaohldmojpihaaGreatDoorW.PrintLast Go.Proofs.YtdaohldmojpihaaGreatDoorW.PrintMore Go.Proofs.YtdaohldmojpihaaGreatDoorPl Go.Proofs.YtdaohldmojpihaaGreatDoorEm Go.Proofs.YtdaohldmojpihaaGreatDoorKr Go.Proofs.YtdaohldmojpihaaGreatDoorAy
set_option linter.unusedVariables false
set_option linter.unusedSimpArgs false
theorem In_calls (x lo hi : Int) (w : World) : Calls Tryz.prog 28 #[.int .i64 x, .int .i64 lo, .int .i64 hi] w fun e w' => e = .returned (.bool (inP x lo hi)) ∧ w' = w := by
  obtain ⟨b, hb⟩ : ∃ b, decide (lo ≤ x) = b := ⟨_, rfl⟩
  obtain ⟨c, hc⟩ : ∃ c, decide (x ≤ hi) = c := ⟨_, rfl⟩
  have HI := Lib.hid (show inP x lo hi = (b && c) by unfold inP; rw [hb, hc])
  cases b <;> cases c
  all_goals
    go_enter Tryz.func28, Tryz.ntmps28
    go_wp2
    go_ret
    exact ⟨(by rw [HI.out]; try rfl), rfl⟩
def checkP (p : Par) : Bool := inP p.N 1 16 && inP p.F 0 ((p.N - 1) / 3) && inP p.D 0 16 && (inP p.Be 1 1099511627776 && inP p.Rho 0 (p.Be / 8) && inP p.De 0 (p.Be / 2) && inP p.Ji 0 p.De) && inP p.Eps 0 1099511627776 && inP p.Mu (p.Rho + 1) (p.Be / 4) && inP p.Ho (p.D + 2) 1048576 && inP p.Pu 1 1099511627776 && inP p.Se 1 1099511627776
theorem nodes_cases (p : Par) : inP p.N 1 16 = false ∨ (1 ≤ p.N ∧ p.N ≤ 16 ∧ inP p.N 1 16 = true ∧ inP p.F 0 ((p.N - 1) / 3) = false) ∨ (1 ≤ p.N ∧ p.N ≤ 16 ∧ inP p.N 1 16 = true ∧ inP p.F 0 ((p.N - 1) / 3) = true ∧ inP p.D 0 16 = false) ∨ (1 ≤ p.N ∧ p.N ≤ 16 ∧ 0 ≤ p.D ∧ p.D ≤ 16 ∧ inP p.N 1 16 = true ∧ inP p.F 0 ((p.N - 1) / 3) = true ∧ inP p.D 0 16 = true) := by
  cases h1 : inP p.N 1 16
  · exact .inl rfl
  · have b1 := in_bd h1
    cases h2 : inP p.F 0 ((p.N - 1) / 3)
    · exact .inr (.inl ⟨b1.1, b1.2, rfl, rfl⟩)
    · cases h3 : inP p.D 0 16
      · exact .inr (.inr (.inl ⟨b1.1, b1.2, rfl, rfl, rfl⟩))
      · have b3 := in_bd h3
        exact .inr (.inr (.inr ⟨b1.1, b1.2, b3.1, b3.2, rfl, rfl, rfl⟩))
theorem ways_cases (p : Par) : inP p.Be 1 1099511627776 = false ∨ (1 ≤ p.Be ∧ p.Be ≤ 1099511627776 ∧ inP p.Be 1 1099511627776 = true ∧ inP p.Rho 0 (p.Be / 8) = false) ∨ (1 ≤ p.Be ∧ p.Be ≤ 1099511627776 ∧ inP p.Be 1 1099511627776 = true ∧ inP p.Rho 0 (p.Be / 8) = true ∧ inP p.De 0 (p.Be / 2) = false) ∨
    (1 ≤ p.Be ∧ p.Be ≤ 1099511627776 ∧ inP p.Be 1 1099511627776 = true ∧ inP p.Rho 0 (p.Be / 8) = true ∧ inP p.De 0 (p.Be / 2) = true ∧ inP p.Ji 0 p.De = false) ∨ (1 ≤ p.Be ∧ p.Be ≤ 1099511627776 ∧ 0 ≤ p.Rho ∧ p.Rho ≤ 1099511627776 ∧ inP p.Be 1 1099511627776 = true ∧ inP p.Rho 0 (p.Be / 8) = true ∧ inP p.De 0 (p.Be / 2) = true ∧ inP p.Ji 0 p.De = true) := by
  cases h1 : inP p.Be 1 1099511627776
  · exact .inl rfl
  · have b1 := in_bd h1
    cases h2 : inP p.Rho 0 (p.Be / 8)
    · exact .inr (.inl ⟨b1.1, b1.2, rfl, rfl⟩)
    · have b2 := in_bd h2
      cases h3 : inP p.De 0 (p.Be / 2)
      · exact .inr (.inr (.inl ⟨b1.1, b1.2, rfl, rfl, rfl⟩))
      · cases h4 : inP p.Ji 0 p.De
        · exact .inr (.inr (.inr (.inl ⟨b1.1, b1.2, rfl, rfl, rfl, rfl⟩)))
        · exact .inr (.inr (.inr (.inr ⟨b1.1, b1.2, b2.1, by omega, rfl, rfl, rfl, rfl⟩)))
theorem rest_cases (p : Par) : inP p.Eps 0 1099511627776 = false ∨ (inP p.Eps 0 1099511627776 = true ∧ inP p.Mu (p.Rho + 1) (p.Be / 4) = false) ∨ (inP p.Eps 0 1099511627776 = true ∧ inP p.Mu (p.Rho + 1) (p.Be / 4) = true ∧ inP p.Ho (p.D + 2) 1048576 = false) ∨ (inP p.Eps 0 1099511627776 = true ∧ inP p.Mu (p.Rho + 1) (p.Be / 4) = true ∧ inP p.Ho (p.D + 2) 1048576 = true ∧ inP p.Pu 1 1099511627776 = false) ∨
    (inP p.Eps 0 1099511627776 = true ∧ inP p.Mu (p.Rho + 1) (p.Be / 4) = true ∧ inP p.Ho (p.D + 2) 1048576 = true ∧ inP p.Pu 1 1099511627776 = true ∧ inP p.Se 1 1099511627776 = false) ∨ (inP p.Eps 0 1099511627776 = true ∧ inP p.Mu (p.Rho + 1) (p.Be / 4) = true ∧ inP p.Ho (p.D + 2) 1048576 = true ∧ inP p.Pu 1 1099511627776 = true ∧ inP p.Se 1 1099511627776 = true) := by
  cases inP p.Eps 0 1099511627776 <;> cases inP p.Mu (p.Rho + 1) (p.Be / 4) <;> cases inP p.Ho (p.D + 2) 1048576 <;> cases inP p.Pu 1 1099511627776 <;> cases inP p.Se 1 1099511627776 <;> simp
set_option maxHeartbeats 8000000 in
set_option maxRecDepth 100000 in
theorem Check_calls (p : Par) (w : World) : Calls Tryz.prog 10 #[.agg #[.int .i64 p.N, .int .i64 p.F, .int .i64 p.D, .int .i64 p.Be, .int .i64 p.Rho, .int .i64 p.De, .int .i64 p.Ji, .int .i64 p.Eps, .int .i64 p.Mu, .int .i64 p.Ho, .int .i64 p.Pu, .int .i64 p.Se]] w fun e w' => e = .returned (.int .i64 (if checkP p = true then 0 else 1)) ∧ Below w.heap.size w w' := by
  obtain ⟨r, hr⟩ : ∃ r, checkP p = r := ⟨_, rfl⟩
  have HC : Hid (checkP p = r) := Lib.hid hr
  rw [hr]
  unfold checkP at hr
  rcases nodes_cases p with h1 | ⟨n1, n2, h1, h2⟩ | ⟨n1, n2, h1, h2, h3⟩ | ⟨n1, n2, n3, n4, h1, h2, h3⟩
  all_goals
    rcases ways_cases p with h5 | ⟨n5, n6, h5, h6⟩ | ⟨n5, n6, h5, h6, h7⟩ | ⟨n5, n6, h5, h6, h7, h8⟩ | ⟨n5, n6, n7, n8, h5, h6, h7, h8⟩
  all_goals first
    | (have g1 : inP p.D 0 16 = true := by assumption
       have g2 : inP p.Ji 0 p.De = true := by assumption
       rcases rest_cases p with h9 | ⟨h9, h10⟩ | ⟨h9, h10, h11⟩ | ⟨h9, h10, h11, h12⟩ | ⟨h9, h10, h11, h12, h13⟩ | ⟨h9, h10, h11, h12, h13⟩)
    | skip
  all_goals
    have e2 : r = true ∨ r = false := by cases r <;> simp
    have HR : Hid (r = true ∨ r = false) := Lib.hid e2
    clear e2
    simp only [*, Bool.true_and, Bool.and_true, Bool.false_and, Bool.and_false] at hr
    subst hr
    have H := Fr.start0 (M := fun _ => False) (A := fun _ => False) (w := w) (p := fun _ => True) (fun _ h => h.elim) (fun _ _ => trivial)
    go_enter Tryz.func10, Tryz.ntmps10
    go_wp2_with (first
      | ((with_reducible refine gate_dst (N := 1) rfl ?_); refine nB H ?_; intro g1 w1 H1; replace H := H1)
      | ((with_reducible refine gL rfl ?_); (try (refine gate_guard (by rfl) ?_; dsimp only)); refine xL H ?_)
      | (go_at_call 28; (with_reducible refine (In_calls _ _ _ _).mono ?_); rintro e w' ⟨rfl, rfl⟩)
      | fail)
    go_ret
    exact ⟨rfl, H.below⟩
end Go.Proofs.YtdaohldmojpihaaGreatDoor.G

namespace Go.Proofs.YtdaohldmojpihaaGreatDoorRz
open Go.RowKit Go.Proofs.YtdaohldmojpihaaGreatDoorW.PrintWords Go.Proofs.YtdaohldmojpihaaGreatDoorW.PrintLast Go.Proofs.YtdaohldmojpihaaGreatDoorW.PrintMore
open Go.Proofs.YtdaohldmojpihaaGreatDoorEm (Fr Chg At Of Tr Keep Frs)
open Go.Proofs.YtdaohldmojpihaaGreatDoorKr (Take)
set_option linter.unusedVariables false
theorem Fr.sub {M A : Nat → Prop} {w W : World} {bl bl' : List (Nat × Obj)} {p : World → Prop} (h : Fr M A w W bl p) (hs : ∀ x, x ∈ bl' → x ∈ bl) (nd : bl'.Pairwise (fun x y => x.1 ≠ y.1)) : Fr M A w W bl' p :=
  ⟨h.av, h.chg, fun x hx => h.blk x (hs x hx), nd, Tr.less h.tr (fun k _ q => q.imp id (fun ⟨x, hx, e⟩ => ⟨x, hs x hx, e⟩))⟩
theorem Fr.sublist {M A : Nat → Prop} {w W : World} {bl bl' : List (Nat × Obj)} {p : World → Prop} (h : Fr M A w W bl p) (hs : bl'.Sublist bl) : Fr M A w W bl' p := Fr.sub h (fun _ hx => hs.subset hx) (h.nd.sublist hs)
theorem Fr.front {M A : Nat → Prop} {w W : World} {bl bl' : List (Nat × Obj)} {p : World → Prop} {g : Nat} {o : Obj} (h : Fr M A w W bl p) (ht : Take bl g o bl') : Fr M A w W ((g, o) :: bl') p :=
  Fr.sub h (fun x hx => ht.perm.mem_iff.2 hx) (Go.Proofs.YtdaohldmojpihaaGreatDoorKr.nd_perm ht.perm h.nd)
theorem Fr.only {M A : Nat → Prop} {w W : World} {bl bl' : List (Nat × Obj)} {p q : World → Prop} {g : Nat} {o : Obj} (h : Fr M A w W bl p) (ha : At bl g o o bl') (hp : ∀ W, p W → q W) : Frs M A w [(g, o)] q W :=
  (Fr.sub h (fun x hx => by rw [List.mem_singleton.1 hx]; exact ha.mem) (List.pairwise_singleton _ _)).imp hp
section
variable {P : Program} {ops : Array Oper} {Q : Exit → Act → World → Prop} {S : World → Prop} {ds : List Nat} {n i j k : Nat} {dn : List Nat} {a : Act} {w : World} {o oi oj ok : Oper} {rest ri rj rk : List (Nat × Oper)} {v : Value}
end
section
variable {P : Program} {ops : Array Oper} {Q : Exit → Act → World → Prop} {ds : List Nat} {n i : Nat} {dn : List Nat} {a : Act} {W : World} {o : Oper} {rest : List (Nat × Oper)} {v : Value} {M A M0 A0 : Nat → Prop} {w w0 : World} {bl bl' bl0 : List (Nat × Obj)} {p p0 : World → Prop}
end
end Go.Proofs.YtdaohldmojpihaaGreatDoorRz

namespace Go.Proofs.YtdaohldmojpihaaGreatDoorRz
open Go.RowKit Go.Proofs.YtdaohldmojpihaaGreatDoorW.PrintWords Go.Proofs.YtdaohldmojpihaaGreatDoorW.PrintLast Go.Proofs.YtdaohldmojpihaaGreatDoorW.PrintMore
open Go.Proofs.YtdaohldmojpihaaGreatDoorEm (Fr Chg At Of Tr Keep Frs)
set_option linter.unusedVariables false
def ldT (c1 c2 a1 a2 : Nat) (dn : List Nat) (k : Nat) (x y : Bool) : List Nat := (if y then [a2] else []) ++ ((if x then [a1] else []) ++ ((if k = 0 then [] else if k = 1 then [c1] else [c2, c1]) ++ dn))
def rdT (c1 c2 a1 a2 : Nat) (k : Nat) (x y : Bool) : List Nat := (if k = 0 then [c1] else if k = 1 then [c2] else []) ++ ((if x then [] else [a1]) ++ (if y then [] else [a2]))
def stT (ops : Array Oper) (n c1 c2 a1 a2 : Nat) (dn : List Nat) (k : Nat) (x y : Bool) : Bool :=
  (Region.ready .any ops (mk n (ldT c1 c2 a1 a2 dn k x y)) == rdT c1 c2 a1 a2 k x y) &&
  ((if k = 0 then (mk n (ldT c1 c2 a1 a2 dn k x y)).setIfInBounds c1 true == mk n (ldT c1 c2 a1 a2 dn 1 x y) else if k = 1 then (mk n (ldT c1 c2 a1 a2 dn k x y)).setIfInBounds c2 true == mk n (ldT c1 c2 a1 a2 dn 2 x y) else true) &&
  ((x || (mk n (ldT c1 c2 a1 a2 dn k x y)).setIfInBounds a1 true == mk n (ldT c1 c2 a1 a2 dn k true y)) && (y || (mk n (ldT c1 c2 a1 a2 dn k x y)).setIfInBounds a2 true == mk n (ldT c1 c2 a1 a2 dn k x true))))
def twoB (ops : Array Oper) (n c1 c2 a1 a2 : Nat) (dn : List Nat) : Bool := [0, 1, 2].all fun k => [true, false].all fun x => [true, false].all fun y => (k == 2 && x && y) || stT ops n c1 c2 a1 a2 dn k x y
theorem twoB_at {ops : Array Oper} {n c1 c2 a1 a2 : Nat} {dn : List Nat} (h : twoB ops n c1 c2 a1 a2 dn = true) {k : Nat} {x y : Bool} (hk : k ≤ 2) (hn : ¬ (k = 2 ∧ x = true ∧ y = true)) : stT ops n c1 c2 a1 a2 dn k x y = true := by
  unfold twoB at h
  rw [List.all_eq_true] at h
  have h1 := h k (by rcases (by omega : k = 0 ∨ k = 1 ∨ k = 2) with rfl | rfl | rfl <;> simp)
  rw [List.all_eq_true] at h1
  have h2 := h1 x (by cases x <;> simp)
  rw [List.all_eq_true] at h2
  have h3 := h2 y (by cases y <;> simp)
  rw [Bool.or_eq_true] at h3
  rcases h3 with h3 | h3
  · simp at h3
    exact absurd ⟨h3.1.1, h3.1.2, h3.2⟩ hn
  · exact h3
theorem rdT_mem {c1 c2 a1 a2 k i : Nat} {x y : Bool} (hi : i ∈ rdT c1 c2 a1 a2 k x y) : (k = 0 ∧ i = c1) ∨ (k = 1 ∧ i = c2) ∨ (x = false ∧ i = a1) ∨ (y = false ∧ i = a2) := by
  unfold rdT at hi
  rw [List.mem_append, List.mem_append] at hi
  rcases hi with hi | hi | hi
  · split at hi
    · rename_i h; exact .inl ⟨h, List.mem_singleton.1 hi⟩
    · split at hi
      · rename_i h; exact .inr (.inl ⟨h, List.mem_singleton.1 hi⟩)
      · cases hi
  · cases x
    · exact .inr (.inr (.inl ⟨rfl, List.mem_singleton.1 (by simpa using hi)⟩))
    · simp at hi
  · cases y
    · exact .inr (.inr (.inr ⟨rfl, List.mem_singleton.1 (by simpa using hi)⟩))
    · simp at hi
theorem rdT_ne {c1 c2 a1 a2 k : Nat} {x y : Bool} (hk : k ≤ 2) (hn : ¬ (k = 2 ∧ x = true ∧ y = true)) : rdT c1 c2 a1 a2 k x y ≠ [] := by
  unfold rdT
  rcases (by omega : k = 0 ∨ k = 1 ∨ k = 2) with rfl | rfl | rfl
  · simp
  · simp
  · cases x
    · simp
    · cases y
      · simp
      · exact absurd ⟨rfl, rfl, rfl⟩ hn
section
variable {P : Program} {ops : Array Oper} {Q : Exit → Act → World → Prop} {S : World → Prop} {ds : List Nat} {n c1 c2 a1 a2 t : Nat} {dn : List Nat} {M A : Nat → Prop} {w W : World} {bl0 : List (Nat × Obj)} {p : World → Prop} {oc1 oc2 oa1 oa2 : Oper} {Ac : Value → Value → Value → Value → Act} {u1 u2 x0 y0 : Value} {z1 z2 : Array Value} {t1 t2 : TypeId} {R1 : Value → List (Nat × Obj) → Prop} {R2 : Value → Value → List (Nat × Obj) → Prop}
def ptrT (g : Nat) : Value := .pointer (some ⟨g, 0, none⟩)
def StT (u1 u2 : Value) (bl0 : List (Nat × Obj)) (R1 : Value → List (Nat × Obj) → Prop) (R2 : Value → Value → List (Nat × Obj) → Prop) (k : Nat) (v1 v2 : Value) (bl : List (Nat × Obj)) : Prop :=
  (k = 0 → v1 = u1 ∧ v2 = u2 ∧ bl = bl0) ∧ (k = 1 → v2 = u2 ∧ R1 v1 bl) ∧ (k = 2 → R2 v1 v2 bl)
def ExT (x0 y0 : Value) (o1 o2 : Obj) (x y : Bool) (X Y : Value) (E : List (Nat × Obj)) : Prop :=
  ∃ e1 e2 : List (Nat × Obj), E.Perm (e1 ++ e2) ∧ (x = false → X = x0 ∧ e1 = []) ∧ (x = true → ∃ g, X = ptrT g ∧ e1 = [(g, o1)]) ∧ (y = false → Y = y0 ∧ e2 = []) ∧ (y = true → ∃ g, Y = ptrT g ∧ e2 = [(g, o2)])
theorem Fr.perm {bl bl' : List (Nat × Obj)} (h : Fr M A w W bl p) (hp : bl.Perm bl') : Fr M A w W bl' p := Fr.sub h (fun x hx => hp.mem_iff.2 hx) (Go.Proofs.YtdaohldmojpihaaGreatDoorKr.nd_perm hp h.nd)
theorem wpOp_one {i : Nat} {o : Oper} {K : Act → World → Prop} {a : Act} (ho : ops[i]? = some o) (hw : Region.wanted o (yielded ops a.tmps) = true) (h : Oper.wp P o a W K Q) : wpOp P ops Q i K a W := by
  unfold Go.wpOp
  simp only [ho, hw, if_true]
  exact .inl h
theorem wp_new {o : Oper} {a : Act} {t : TypeId} {cs : Array Value} {bl : List (Nat × Obj)} (H : Fr M A w W bl p) (hr : (execOp a.eval o).run P W = .ok (.value (ptrT W.heap.size)) (W.alloc (.cells cs t (0, 0)))) {K : Act → World → Prop}
    (h : ∀ g w1, Fr M A w w1 ((g, .cells cs t (0, 0)) :: bl) p → K (a.put o.dst (ptrT g)) w1) : Oper.wp P o a W K Q := by
  unfold Oper.wp
  rw [hr]
  exact h _ _ (H.alloc rfl (blk_new W (.cells cs t (0, 0))) (below_alloc (Below.refl _ _) _))
theorem two_calls (hB : twoB ops n c1 c2 a1 a2 dn = true) (h1 : ops[c1]? = some oc1) (h2 : ops[c2]? = some oc2) (h3 : ops[a1]? = some oa1) (h4 : ops[a2]? = some oa2) (hne : (c1 ≠ c2 ∧ c1 ≠ a1 ∧ c1 ≠ a2) ∧ (c2 ≠ a1 ∧ c2 ≠ a2) ∧ a1 ≠ a2)
    (w1 : ∀ X Y, Region.wanted oc1 (yielded ops (Ac u1 u2 X Y).tmps) = true) (w2 : ∀ v1 X Y, Region.wanted oc2 (yielded ops (Ac v1 u2 X Y).tmps) = true) (w3 : ∀ v1 v2 Y, Region.wanted oa1 (yielded ops (Ac v1 v2 x0 Y).tmps) = true) (w4 : ∀ v1 v2 X, Region.wanted oa2 (yielded ops (Ac v1 v2 X y0).tmps) = true)
    (p1 : ∀ v X Y, (Ac u1 u2 X Y).put oc1.dst v = Ac v u2 X Y) (p2 : ∀ v1 v X Y, (Ac v1 u2 X Y).put oc2.dst v = Ac v1 v X Y) (p3 : ∀ v1 v2 v Y, (Ac v1 v2 x0 Y).put oa1.dst v = Ac v1 v2 v Y) (p4 : ∀ v1 v2 X v, (Ac v1 v2 X y0).put oa2.dst v = Ac v1 v2 X v)
    (r3 : ∀ v1 v2 Y W, (execOp (Ac v1 v2 x0 Y).eval oa1).run P W = .ok (.value (ptrT W.heap.size)) (W.alloc (.cells z1 t1 (0, 0)))) (r4 : ∀ v1 v2 X W, (execOp (Ac v1 v2 X y0).eval oa2).run P W = .ok (.value (ptrT W.heap.size)) (W.alloc (.cells z2 t2 (0, 0))))
    (s0 : ∀ E W, Fr M A w W (E ++ bl0) p → S W) (s1 : ∀ v1 bl1, R1 v1 bl1 → ∀ E W, Fr M A w W (E ++ bl1) p → S W) (s2 : ∀ v1 v2 bl2, R2 v1 v2 bl2 → ∀ E W, Fr M A w W (E ++ bl2) p → S W)
    (k1 : ∀ E W X Y (K : Act → World → Prop), Fr M A w W (E ++ bl0) p → (∀ v1 bl1 W', R1 v1 bl1 → Fr M A w W' (E ++ bl1) p → K ((Ac u1 u2 X Y).put oc1.dst v1) W') → Oper.wp P oc1 (Ac u1 u2 X Y) W K Q)
    (k2 : ∀ v1 bl1, R1 v1 bl1 → ∀ E W X Y (K : Act → World → Prop), Fr M A w W (E ++ bl1) p → (∀ v2 bl2 W', R2 v1 v2 bl2 → Fr M A w W' (E ++ bl2) p → K ((Ac v1 u2 X Y).put oc2.dst v2) W') → Oper.wp P oc2 (Ac v1 u2 X Y) W K Q)
    (hend : ∀ v1 v2 bl2 g1 g2 W, R2 v1 v2 bl2 → Fr M A w W ((g1, .cells z1 t1 (0, 0)) :: (g2, .cells z2 t2 (0, 0)) :: bl2) p → wpAnyLast P .any ops Q S ds t (mk n (ldT c1 c2 a1 a2 dn 2 true true)) (Ac v1 v2 (ptrT g1) (ptrT g2)) W) :
    ∀ (m k : Nat) (x y : Bool) (v1 v2 X Y : Value) (bl E : List (Nat × Obj)) (W : World), m = (2 - k) + (if x then 0 else 1) + (if y then 0 else 1) → k ≤ 2 → StT u1 u2 bl0 R1 R2 k v1 v2 bl → ExT x0 y0 (.cells z1 t1 (0, 0)) (.cells z2 t2 (0, 0)) x y X Y E → Fr M A w W (E ++ bl) p →
      wpAnyLast P .any ops Q S ds (m + t) (mk n (ldT c1 c2 a1 a2 dn k x y)) (Ac v1 v2 X Y) W := by
  intro m
  induction m with
  | zero =>
    intro k x y v1 v2 X Y bl E W hm hk hS hE H
    have hx : x = true := by
      cases x
      · rw [if_neg (by decide)] at hm; omega
      · rfl
    have hy : y = true := by
      cases y
      · rw [if_neg (c := (false = true)) (by decide)] at hm; omega
      · rfl
    have hk2 : k = 2 := by rw [hx, hy] at hm; simp at hm; omega
    subst hx hy hk2
    obtain ⟨e1, e2, hp, _, f1, _, f2⟩ := hE
    obtain ⟨g1, rfl, rfl⟩ := f1 rfl
    obtain ⟨g2, rfl, rfl⟩ := f2 rfl
    rw [Nat.zero_add]
    exact hend v1 v2 bl g1 g2 W (hS.2.2 rfl) (Fr.perm H (hp.append_right bl))
  | succ m ih =>
    intro k x y v1 v2 X Y bl E W hm hk hS hE H
    have hn : ¬ (k = 2 ∧ x = true ∧ y = true) := by rintro ⟨rfl, rfl, rfl⟩; simp at hm
    have hst := twoB_at hB hk hn
    unfold stT at hst
    simp only [Bool.and_eq_true, beq_iff_eq] at hst
    obtain ⟨hr, hc, hx3, hx4⟩ := hst
    have e0 : m + 1 + t = (m + t) + 1 := by omega
    rw [e0]
    have hne' := rdT_ne (c1 := c1) (c2 := c2) (a1 := a1) (a2 := a2) hk hn
    refine wpAnyLast_all hr hne' (fun i hi => ?_)
    have hi' := rdT_mem hi
    rcases hi' with ⟨rfl, rfl⟩ | ⟨rfl, rfl⟩ | ⟨rfl, rfl⟩ | ⟨rfl, rfl⟩
    · obtain ⟨rfl, rfl, rfl⟩ := hS.1 rfl
      rw [if_pos rfl] at hc
      have hc := eq_of_beq hc
      refine wpOp_one h1 (w1 X Y) (k1 E W X Y _ H (fun v bl1 W' hR HF => ⟨fun _ _ => s1 v bl1 hR E W' HF, ?_⟩))
      rw [p1, hc]
      exact ih 1 x y v _ X Y bl1 E W' (by omega) (by omega) ⟨fun h => by omega, fun _ => ⟨rfl, hR⟩, fun h => by omega⟩ hE HF
    · obtain ⟨rfl, hR1⟩ := hS.2.1 rfl
      rw [if_neg (by decide), if_pos rfl] at hc
      have hc := eq_of_beq hc
      refine wpOp_one h2 (w2 v1 X Y) (k2 v1 bl hR1 E W X Y _ H (fun v bl2 W' hR HF => ⟨fun _ _ => s2 v1 v bl2 hR E W' HF, ?_⟩))
      rw [p2, hc]
      exact ih 2 x y v1 v X Y bl2 E W' (by omega) (by omega) ⟨fun h => by omega, fun h => by omega, fun _ => hR⟩ hE HF
    · obtain ⟨e1, e2, hp, f1, f1', f2, f2'⟩ := hE
      obtain ⟨rfl, rfl⟩ := f1 rfl
      have hx3 : (mk n (ldT c1 c2 i a2 dn k false y)).setIfInBounds i true = mk n (ldT c1 c2 i a2 dn k true y) := by simpa using hx3
      refine wpOp_one h3 (w3 v1 v2 Y) (wp_new H (r3 v1 v2 Y W) (fun g w1 HF => ⟨fun _ _ => ?_, ?_⟩))
      · have HF' : Fr M A w w1 (((g, Obj.cells z1 t1 (0, 0)) :: E) ++ bl) p := HF
        rcases (by omega : k = 0 ∨ k = 1 ∨ k = 2) with rfl | rfl | rfl
        · obtain ⟨_, _, rfl⟩ := hS.1 rfl
          exact s0 _ _ HF'
        · exact s1 _ _ (hS.2.1 rfl).2 _ _ HF'
        · exact s2 _ _ _ (hS.2.2 rfl) _ _ HF'
      · rw [p3, hx3]
        refine ih k true y v1 v2 (ptrT g) Y bl ((g, .cells z1 t1 (0, 0)) :: E) w1 (by simp at hm ⊢; omega) hk hS ⟨[(g, .cells z1 t1 (0, 0))], e2, ?_, fun h => (by cases h), fun _ => ⟨g, rfl, rfl⟩, f2, f2'⟩ HF
        exact List.Perm.cons _ (by simpa using hp)
    · obtain ⟨e1, e2, hp, f1, f1', f2, f2'⟩ := hE
      obtain ⟨rfl, rfl⟩ := f2 rfl
      have hx4 : (mk n (ldT c1 c2 a1 i dn k x false)).setIfInBounds i true = mk n (ldT c1 c2 a1 i dn k x true) := by simpa using hx4
      refine wpOp_one h4 (w4 v1 v2 X) (wp_new H (r4 v1 v2 X W) (fun g w1 HF => ⟨fun _ _ => ?_, ?_⟩))
      · have HF' : Fr M A w w1 (((g, Obj.cells z2 t2 (0, 0)) :: E) ++ bl) p := HF
        rcases (by omega : k = 0 ∨ k = 1 ∨ k = 2) with rfl | rfl | rfl
        · obtain ⟨_, _, rfl⟩ := hS.1 rfl
          exact s0 _ _ HF'
        · exact s1 _ _ (hS.2.1 rfl).2 _ _ HF'
        · exact s2 _ _ _ (hS.2.2 rfl) _ _ HF'
      · rw [p4, hx4]
        refine ih k x true v1 v2 X (ptrT g) bl ((g, .cells z2 t2 (0, 0)) :: E) w1 (by simp at hm ⊢; omega) hk hS ⟨e1, [(g, .cells z2 t2 (0, 0))], ?_, f1, f1', fun h => (by cases h), fun _ => ⟨g, rfl, rfl⟩⟩ HF
        rw [List.append_nil] at hp
        exact (List.Perm.cons _ hp).trans (List.perm_append_singleton _ _).symm
theorem At.app {bl bl' : List (Nat × Obj)} {g : Nat} {o o' : Obj} (h : At bl g o o' bl') : ∀ E : List (Nat × Obj), At (E ++ bl) g o o' (E ++ bl')
  | [] => h
  | x :: E => At.tail (At.app h E)
def acT (a : Act) (N1 N2 N3 N4 : Tmp) (v1 v2 X Y : Value) : Act := (((a.put (some N1) v1).put (some N2) v2).put (some N3) X).put (some N4) Y
theorem ro_two {a : Act} {rest r : List (Nat × Oper)} (N1 N2 N3 N4 : Tmp) (R1 : Value → List (Nat × Obj) → Prop) (R2 : Value → Value → List (Nat × Obj) → Prop) (H : Fr M A w W bl0 p) (hB : twoB ops n c1 c2 a1 a2 dn = true) (hrest : rest = (c1, oc1) :: (c2, oc2) :: (a1, oa1) :: (a2, oa2) :: r) (hne : (c1 ≠ c2 ∧ c1 ≠ a1 ∧ c1 ≠ a2) ∧ (c2 ≠ a1 ∧ c2 ≠ a2) ∧ a1 ≠ a2)
    (ha : acT a N1 N2 N3 N4 u1 u2 x0 y0 = a)
    (w1 : ∀ X Y, Region.wanted oc1 (yielded ops (acT a N1 N2 N3 N4 u1 u2 X Y).tmps) = true) (w2 : ∀ v1 X Y, Region.wanted oc2 (yielded ops (acT a N1 N2 N3 N4 v1 u2 X Y).tmps) = true) (w3 : ∀ v1 v2 Y, Region.wanted oa1 (yielded ops (acT a N1 N2 N3 N4 v1 v2 x0 Y).tmps) = true) (w4 : ∀ v1 v2 X, Region.wanted oa2 (yielded ops (acT a N1 N2 N3 N4 v1 v2 X y0).tmps) = true)
    (p1 : ∀ v X Y, (acT a N1 N2 N3 N4 u1 u2 X Y).put oc1.dst v = acT a N1 N2 N3 N4 v u2 X Y) (p2 : ∀ v1 v X Y, (acT a N1 N2 N3 N4 v1 u2 X Y).put oc2.dst v = acT a N1 N2 N3 N4 v1 v X Y) (p3 : ∀ v1 v2 v Y, (acT a N1 N2 N3 N4 v1 v2 x0 Y).put oa1.dst v = acT a N1 N2 N3 N4 v1 v2 v Y) (p4 : ∀ v1 v2 X v, (acT a N1 N2 N3 N4 v1 v2 X y0).put oa2.dst v = acT a N1 N2 N3 N4 v1 v2 X v)
    (r3 : ∀ v1 v2 Y W (K : Result Next → Prop), Hid (K (.ok (.value (.pointer (some ⟨W.heap.size, 0, none⟩))) (W.alloc (.cells z1 t1 (0, 0))))) → K ((execOp (acT a N1 N2 N3 N4 v1 v2 x0 Y).eval oa1).run P W)) (r4 : ∀ v1 v2 X W (K : Result Next → Prop), Hid (K (.ok (.value (.pointer (some ⟨W.heap.size, 0, none⟩))) (W.alloc (.cells z2 t2 (0, 0))))) → K ((execOp (acT a N1 N2 N3 N4 v1 v2 X y0).eval oa2).run P W))
    (s0 : ∀ E W, Fr M A w W (E ++ bl0) p → S W) (s1 : ∀ v1 bl1, R1 v1 bl1 → ∀ E W, Fr M A w W (E ++ bl1) p → S W) (s2 : ∀ v1 v2 bl2, R2 v1 v2 bl2 → ∀ E W, Fr M A w W (E ++ bl2) p → S W)
    (k1 : ∀ E W X Y (K : Act → World → Prop), Fr M A w W (E ++ bl0) p → (∀ v1 bl1 W', R1 v1 bl1 → Fr M A w W' (E ++ bl1) p → K ((acT a N1 N2 N3 N4 u1 u2 X Y).put oc1.dst v1) W') → Oper.wp P oc1 (acT a N1 N2 N3 N4 u1 u2 X Y) W K Q)
    (k2 : ∀ v1 bl1, R1 v1 bl1 → ∀ E W X Y (K : Act → World → Prop), Fr M A w W (E ++ bl1) p → (∀ v2 bl2 W', R2 v1 v2 bl2 → Fr M A w W' (E ++ bl2) p → K ((acT a N1 N2 N3 N4 v1 u2 X Y).put oc2.dst v2) W') → Oper.wp P oc2 (acT a N1 N2 N3 N4 v1 u2 X Y) W K Q)
    (hend : ∀ v1 v2 bl2 g1 g2 W, R2 v1 v2 bl2 → Fr M A w W ((g1, .cells z1 t1 (0, 0)) :: (g2, .cells z2 t2 (0, 0)) :: bl2) p → RO P ops Q S ds n (ldT c1 c2 a1 a2 dn 2 true true) r (acT a N1 N2 N3 N4 v1 v2 (ptrT g1) (ptrT g2)) W) : RO P ops Q S ds n dn rest a W := fun e => by
  subst hrest
  have h1 : ops[c1]? = some oc1 := e (c1, oc1) List.mem_cons_self
  have h2 : ops[c2]? = some oc2 := e (c2, oc2) (List.mem_cons_of_mem _ List.mem_cons_self)
  have h3 : ops[a1]? = some oa1 := e (a1, oa1) (List.mem_cons_of_mem _ (List.mem_cons_of_mem _ List.mem_cons_self))
  have h4 : ops[a2]? = some oa2 := e (a2, oa2) (List.mem_cons_of_mem _ (List.mem_cons_of_mem _ (List.mem_cons_of_mem _ List.mem_cons_self)))
  have := two_calls (t := r.length) (Ac := acT a N1 N2 N3 N4) (z1 := z1) (z2 := z2) (t1 := t1) (t2 := t2) hB h1 h2 h3 h4 hne w1 w2 w3 w4 p1 p2 p3 p4 (fun v1 v2 Y W => r3 v1 v2 Y W (fun r => r = _) (Lib.hid rfl)) (fun v1 v2 X W => r4 v1 v2 X W (fun r => r = _) (Lib.hid rfl)) s0 s1 s2 k1 k2
    (fun v1 v2 bl2 g1 g2 W hR hF => hend v1 v2 bl2 g1 g2 W hR hF (fun x hx => e x (List.mem_cons_of_mem _ (List.mem_cons_of_mem _ (List.mem_cons_of_mem _ (List.mem_cons_of_mem _ hx))))))
    4 0 false false u1 u2 x0 y0 bl0 [] W rfl (by decide) ⟨fun _ => ⟨rfl, rfl, rfl⟩, fun h => by omega, fun h => by omega⟩ ⟨[], [], List.Perm.refl _, fun _ => ⟨rfl, rfl⟩, fun h => (by cases h), fun _ => ⟨rfl, rfl⟩, fun h => (by cases h)⟩ H
  rw [ha] at this
  have hl : ((c1, oc1) :: (c2, oc2) :: (a1, oa1) :: (a2, oa2) :: r).length = 4 + r.length := by simp only [List.length_cons]; omega
  rw [hl]
  exact this
end
end Go.Proofs.YtdaohldmojpihaaGreatDoorRz

namespace Go.Proofs
open Go.Shelf
def Tryz.lays189_ren : Go.Shelf.Ren := ⟨fun | 189 => 69 | 125 => 119 | 257 => 118 | 128 => 158 | 129 => 159 | 294 => 149 | 295 => 150 | 296 => 151 | 297 => 152 | 298 => 153 | 299 => 154 | 216 => 155 | 300 => 156 | 301 => 157 | 328 => 176 | 329 => 177 | 330 => 178 | 331 => 179 | 332 => 180 | 215 => 181 | 343 => 190 | n => n, fun | 28 => 56 | 3 => 3 | 46 => 171 | 0 => 0 | 51 => 201 | 53 => 203 | 4 => 4 | 183 => 195 | 182 => 194 | 131 => 117 | 5 => 5 | 9 => 9 | 218 => 219 | 222 => 223 | 228 => 228 | 229 => 190 | n => n, fun | n => n⟩
theorem Tryz.lays189 : Go.Proofs.Lays.n189 Tryz.prog Tryz.lays189_ren := {
  mixed := by kernel_rfl
  f125 := Tryz.func119.trans (congrArg some (by kernel_rfl))
  f128 := Tryz.func158.trans (congrArg some (by kernel_rfl))
  f129 := Tryz.func159.trans (congrArg some (by kernel_rfl))
  f189 := Tryz.func69.trans (congrArg some (by kernel_rfl))
  f215 := Tryz.func181.trans (congrArg some (by kernel_rfl))
  f216 := Tryz.func155.trans (congrArg some (by kernel_rfl))
  f257 := Tryz.func118.trans (congrArg some (by kernel_rfl))
  f294 := Tryz.func149.trans (congrArg some (by kernel_rfl))
  f295 := Tryz.func150.trans (congrArg some (by kernel_rfl))
  f296 := Tryz.func151.trans (congrArg some (by kernel_rfl))
  f297 := Tryz.func152.trans (congrArg some (by kernel_rfl))
  f298 := Tryz.func153.trans (congrArg some (by kernel_rfl))
  f299 := Tryz.func154.trans (congrArg some (by kernel_rfl))
  f300 := Tryz.func156.trans (congrArg some (by kernel_rfl))
  f301 := Tryz.func157.trans (congrArg some (by kernel_rfl))
  f328 := Tryz.func176.trans (congrArg some (by kernel_rfl))
  f329 := Tryz.func177.trans (congrArg some (by kernel_rfl))
  f330 := Tryz.func178.trans (congrArg some (by kernel_rfl))
  f331 := Tryz.func179.trans (congrArg some (by kernel_rfl))
  f332 := Tryz.func180.trans (congrArg some (by kernel_rfl))
  f343 := Tryz.func190.trans (congrArg some (by kernel_rfl))
  t0 := Tryz.underlying0
  a0 := Tryz.isAgg0
  z0 := Tryz.sizeOf0
  v0 := Tryz.zeroValue0
  t3 := Tryz.underlying3
  a3 := Tryz.isAgg3
  z3 := Tryz.sizeOf3
  v3 := Tryz.zeroValue3
  t4 := Tryz.underlying4
  a4 := Tryz.isAgg4
  z4 := Tryz.sizeOf4
  v4 := Tryz.zeroValue4
  t5 := Tryz.underlying5
  a5 := Tryz.isAgg5
  z5 := Tryz.sizeOf5
  v5 := Tryz.zeroValue5
  t9 := Tryz.underlying9
  a9 := Tryz.isAgg9
  z9 := Tryz.sizeOf9
  v9 := Tryz.zeroValue9
  t28 := Tryz.underlying56
  a28 := Tryz.isAgg56
  z28 := Tryz.sizeOf56
  v28 := Tryz.zeroValue56
  t46 := Tryz.underlying171
  a46 := Tryz.isAgg171
  z46 := Tryz.sizeOf171
  v46 := Tryz.zeroValue171
  t51 := Tryz.underlying201
  a51 := Tryz.isAgg201
  z51 := Tryz.sizeOf201
  v51 := Tryz.zeroValue201
  t53 := Tryz.underlying203
  a53 := Tryz.isAgg203
  z53 := Tryz.sizeOf203
  v53 := Tryz.zeroValue203
  t131 := Tryz.underlying117
  a131 := Tryz.isAgg117
  z131 := Tryz.sizeOf117
  v131 := Tryz.zeroValue117
  t182 := Tryz.underlying194
  a182 := Tryz.isAgg194
  z182 := Tryz.sizeOf194
  v182 := Tryz.zeroValue194
  t183 := Tryz.underlying195
  a183 := Tryz.isAgg195
  z183 := Tryz.sizeOf195
  v183 := Tryz.zeroValue195
  t218 := Tryz.underlying219
  a218 := Tryz.isAgg219
  z218 := Tryz.sizeOf219
  v218 := Tryz.zeroValue219
  t222 := Tryz.underlying223
  a222 := Tryz.isAgg223
  z222 := Tryz.sizeOf223
  v222 := Tryz.zeroValue223
  t228 := Tryz.underlying228
  a228 := Tryz.isAgg228
  z228 := Tryz.sizeOf228
  v228 := Tryz.zeroValue228
  t229 := Tryz.underlying190
  a229 := Tryz.isAgg190
  z229 := Tryz.sizeOf190
  v229 := Tryz.zeroValue190 }
open Go.Sort Go.RowKit in
theorem Tryz.slices_Sort_int (blk off cap : Nat) (zs : List Int) (w : World) (hH : Holds (Value.int .i64) w blk off zs.toArray) (hblk : blk < w.heap.size) (hsz : zs.length < 4611686018427387904) :
    Calls Tryz.prog 69 #[.slice (some ⟨blk, off, none⟩) zs.length cap] w fun e w' =>
      e = .returned (.tuple #[]) ∧ ∃ n os, w' = grow (putRow (Value.int .i64) (Sort.ahead w n) blk off (zs.mergeSort fun x y => decide (x ≤ y)).toArray) os := Any.slices_Sort_int Tryz.lays189 blk off cap zs w hH hblk hsz
open Go.RowKit Go.Sort in
theorem Tryz.slices_Sort_int_none (p : Option Addr) (cap : Nat) (w : World) :
    Calls Tryz.prog 69 #[.slice p 0 cap] w fun e w' => e = .returned (.tuple #[]) ∧ w' = w := Any.slices_Sort_int_none Tryz.lays189 p cap w
end Go.Proofs

namespace Go.Proofs.YtdaohldmojpihaaGreatDoor.So
open Go.RowKit Go.Shelf Go.Sort Go.Proofs.YtdaohldmojpihaaGreatDoorW.PrintWords Go.Proofs.YtdaohldmojpihaaGreatDoorW.PrintLast Go.Proofs.YtdaohldmojpihaaGreatDoorW.PrintMore Go.Proofs.YtdaohldmojpihaaGreatDoorEv
attribute [local go_sem] Oper.semAt_some
def upto {α : Type} (f : Nat → α) (k : Nat) : List α := (List.range k).map f
theorem upto_succ {α : Type} (f : Nat → α) (k : Nat) : upto f (k + 1) = upto f k ++ [f k] := by simp [upto, List.range_succ]
theorem upto_length {α : Type} (f : Nat → α) (k : Nat) : (upto f k).length = k := by simp [upto]
theorem upto_take (zs : List Int) {k : Nat} (hk : k ≤ zs.length) : upto (fun j => zs[j]?.getD 0) k = zs.take k := by
  apply List.ext_getElem
  · simp [upto, hk]
  · intro i h1 h2
    have : i < zs.length := by simp [upto] at h1; omega
    simp [upto, this]
theorem upto_all (zs : List Int) : upto (fun j => zs[j]?.getD 0) zs.length = zs := by rw [upto_take zs (Nat.le_refl _), List.take_length]
def Ints (n₀ : Nat) (W : World) (sv : Value) (zs : List Int) : Prop :=
  (∃ A c, sv = .slice A 0 c ∧ zs = []) ∨ ∃ ad cap, sv = .slice (some ad) zs.length cap ∧ ad.block < n₀ ∧ ∀ j, j < zs.length → W.cell? (ad.add j) = some (.int .i64 (zs[j]?.getD 0))
theorem Ints.below {n₀ : Nat} {A B : World} (h : Below n₀ A B) {sv : Value} {zs : List Int} : Ints n₀ A sv zs → Ints n₀ B sv zs
  | .inl e => .inl e
  | .inr ⟨ad, cap, e, hb, hc⟩ => .inr ⟨ad, cap, e, hb, fun j hj => (h.cell (p := ad.add j) (by rw [add_block]; exact hb)).trans (hc j hj)⟩
theorem Ints.mono {n₀ n₁ : Nat} {W : World} (h : n₀ ≤ n₁) {sv : Value} {zs : List Int} : Ints n₀ W sv zs → Ints n₁ W sv zs
  | .inl e => .inl e
  | .inr ⟨ad, cap, e, hb, hc⟩ => .inr ⟨ad, cap, e, by omega, hc⟩
set_option maxRecDepth 100000 in
set_option maxHeartbeats 2000000 in
theorem val1_in (n : Nat) (hn : 1 ≤ n) (l Bs n₀ : Nat) (ad : Addr) (len cap : Nat) (zs : List Int) (hreach : len * 8 ≤ 140737488351232) (hb : ad.block < n₀) (J Jx : List Int → World → Prop)
    (hY : ∀ pre x W, J pre W → pre.length < len → YieldAt Fence.wide (n - 1) Tryz.prog l #[.int .i64 x] W fun e W' =>
      (e = .returned (.bool true) ∧ J (pre ++ [x]) W' ∧ Below n₀ W W') ∨ (e = .returned (.bool false) ∧ Jx (pre ++ [x]) W'))
    (W : World) (hBs : W.cell? ⟨Bs, 0, none⟩ = some (.slice (some ad) len cap)) (hc : ∀ j, j < len → W.cell? (ad.add j) = some (.int .i64 (zs[j]?.getD 0))) (h0 : J [] W) :
    CallsIn Fence.wide n Tryz.prog 184 #[.func (.yield l) #[] #[], .pointer (some ⟨Bs, 0, none⟩)] W fun e W' => (∃ v, e = .returned v) ∧
      ((∃ ys, ys = upto (fun j => zs[j]?.getD 0) len ∧ J ys W') ∨ (∃ pre, (∃ k, k ≤ len ∧ pre = upto (fun j => zs[j]?.getD 0) k) ∧ Jx pre W')) := by
  refine callsIn_of_wp Tryz.func184 rfl trivial ?_ rfl
  simp only [Tryz.ntmps184, List.size_toArray, List.length_cons, List.length_nil, Nat.reduceAdd, Nat.reduceSub, Array.replicate_succ, Array.replicate_zero, List.push_toArray, List.append_toArray, List.nil_append, List.cons_append]
  gi_wp2
  gi_loopw [7] (fun i wr => ∃ k : Nat, k ≤ len ∧ i = .int .i64 k ∧ J (upto (fun j => zs[j]?.getD 0) k) wr ∧ Below n₀ W wr)
    (fun i _ => len - (intOf i).toNat)
  case atStart => exact ⟨0, Nat.zero_le _, rfl, h0, Below.refl _ _⟩
  case round =>
    obtain ⟨k, hk, rfl, hJs, hnx⟩ := hrel
    have hcx : k < len → wr.cell? (ad.add k) = some (.int .i64 (zs[k]?.getD 0)) := fun h => (hnx.cell (p := ad.add k) (by rw [add_block]; exact hb)).trans (hc k h)
    by_cases hlt : k < len
    · obtain ⟨fn, tmps, assign, body, hy, hR⟩ := hY _ (zs[k]?.getD 0) wr hJs (by rw [upto_length]; exact hlt)
      have hcx' := hcx hlt
      gi_wp2
      refine hR.mono ?_
      rintro e W3 (⟨rfl, hJ3, hk3⟩ | ⟨rfl, hJx3⟩)
      · gi_wp2
        go_roundw
        case rel => exact ⟨k + 1, by omega, by simp, by rw [upto_succ]; exact hJ3, hnx.trans hk3⟩
        case measure => simp [intOf]; omega
      · gi_wp2
        refine bodyPost_ret (results_none rfl _ _ _) rfl ?_
        exact ⟨⟨_, rfl⟩, .inr ⟨_, ⟨k + 1, by omega, (upto_succ _ _).symm⟩, hJx3⟩⟩
    · obtain rfl : k = len := by omega
      gi_wp2
      go_end0
      exact ⟨⟨_, rfl⟩, .inl ⟨_, rfl, hJs⟩⟩
set_option maxRecDepth 100000 in
set_option maxHeartbeats 1000000 in
theorem val1_nil (n : Nat) (l Bs : Nat) (A : Option Addr) (c : Nat) (J : List Int → World → Prop) (W : World) (hBs : W.cell? ⟨Bs, 0, none⟩ = some (.slice A 0 c)) (h0 : J [] W) :
    CallsIn Fence.wide n Tryz.prog 184 #[.func (.yield l) #[] #[], .pointer (some ⟨Bs, 0, none⟩)] W fun e W' => (∃ v, e = .returned v) ∧ J [] W' := by
  refine callsIn_of_wp Tryz.func184 rfl trivial ?_ rfl
  simp only [Tryz.ntmps184, List.size_toArray, List.length_cons, List.length_nil, Nat.reduceAdd, Nat.reduceSub, Array.replicate_succ, Array.replicate_zero, List.push_toArray, List.append_toArray, List.nil_append, List.cons_append]
  gi_wp2
  gi_loopw [7] (fun i wr => i = .int .i64 0 ∧ J [] wr) (fun _ _ => 0)
  case atStart => exact ⟨rfl, h0⟩
  case round =>
    obtain ⟨rfl, hJs⟩ := hrel
    gi_wp2
    go_end0
    exact ⟨⟨_, rfl⟩, hJs⟩
theorem val_stops (n : Nat) (hn : 1 ≤ n) (Bs n₀ : Nat) (sv : Value) (zs : List Int) (hreach : zs.length * 8 ≤ 140737488351232) (w : World) (hBs : Bs < w.heap.size) (hn₀ : n₀ ≤ w.heap.size)
    (hc : w.cell? ⟨Bs, 0, none⟩ = some sv) (hI : Ints n₀ w sv zs) :
    SeqStopsK Fence.wide n Tryz.prog 184 #[.pointer (some ⟨Bs, 0, none⟩)] (fun x : Int => #[Value.int .i64 x]) (Below n₀) (fun ys => ys = zs) (fun pre => pre <+: zs) zs.length w := fun l J Jx W hW _ _ hY h0 => by
  have hc' := (hW.cell (p := ⟨Bs, 0, none⟩) hBs).trans hc
  rcases hI.below (hW.mono hn₀) with ⟨A, c, rfl, rfl⟩ | ⟨ad, cap, rfl, hb, hcs⟩
  · exact (val1_nil n l Bs A c J W hc' h0).mono fun e W' ⟨he, hj⟩ => ⟨he, .inl ⟨_, rfl, hj⟩⟩
  · refine (val1_in n hn l Bs n₀ ad zs.length cap zs hreach hb J Jx hY W hc' hcs h0).mono ?_
    rintro e W' ⟨he, ⟨ys, rfl, hj⟩ | ⟨pre, ⟨k, hk, rfl⟩, hj⟩⟩
    · exact ⟨he, .inl ⟨_, upto_all zs, hj⟩⟩
    · exact ⟨he, .inr ⟨_, by rw [upto_take zs hk]; exact List.take_prefix _ _, hj⟩⟩
theorem info3 : (Tryz.prog.info? 3).map (fun i => (i.zero, i.size, i.bytes)) = some (some (.int .i64 0), 1, 8) := by kernel_rfl
set_option maxRecDepth 100000 in
set_option maxHeartbeats 2000000 in
theorem app_in (n : Nat) (hn : 3 ≤ n) (Bs : Nat) (sv : Value) (zs : List Int) (hlen : zs.length ≤ maxLen) (hreach : zs.length * 8 ≤ 140737488351232) (w : World) (hBs : Bs < w.heap.size)
    (hc : w.cell? ⟨Bs, 0, none⟩ = some sv) (hI : Ints w.heap.size w sv zs) :
    CallsIn Fence.wide n Tryz.prog 175 #[.slice none 0 0, .func (.func 184) #[] #[.pointer (some ⟨Bs, 0, none⟩)]] w fun e W' =>
      ∃ v, e = .returned v ∧ W'.ownsRow w.heap.size 3 1 v zs.length (zs.map (Value.int .i64)) ∧ (v = .slice none 0 0 ↔ zs = []) ∧ Below w.heap.size w W' := by
  have h1 : 1 ≤ n := by omega
  obtain ⟨i0, hi, hz0, hz1, hz2⟩ := info_parts info3
  refine callsIn_of_wp_marks Tryz.func175 rfl trivial ?_ rfl
  simp only [Tryz.ntmps175, List.size_toArray, List.length_cons, List.length_nil, Nat.reduceAdd, Nat.reduceSub, Array.replicate_succ, Array.replicate_zero, List.push_toArray, List.append_toArray, List.nil_append, List.cons_append]
  gi_wp2
  have bO := Boxed.new w 56 (.slice none 0 0)
  have hB0 : Below w.heap.size w (w.alloc (.cells #[.slice none 0 0] 56)) := (Below.refl _ w).alloc (Nat.le_refl _) _
  refine wpIn_rangeFunc_ownG (F := Fence.wide) rfl h1 (gf := 184) (lb := #[.pointer (some ⟨Bs, 0, none⟩)]) rfl trivial (enters_of Tryz.func184 (by kernel_rfl) rfl)
    (val_stops (n - 1) (by omega) Bs w.heap.size _ zs hreach _ (by simp; omega) (by simp) ((hB0.cell (p := ⟨Bs, 0, none⟩) hBs).trans hc) (hI.below hB0)) belowK_t (belowK_b (by simp)) (Below.refl _ _) (fun _ => rfl)
    (fun pre W => (∃ v, Boxed W w.heap.size 56 v ∧ W.ownsRow w.heap.size 3 1 v pre.length (pre.map (Value.int .i64)) ∧ (v = .slice none 0 0 ↔ pre = [])) ∧ Below w.heap.size w W)
    (fun _ _ _ => False)
    (OwnFrom.and (Own.from (holdsRow_own w.heap.size w.heap.size 56 3 1 (fun pre => pre.length) (fun pre => pre.map (Value.int .i64)) (fun pre v => v = .slice none 0 0 ↔ pre = [])) _) (ownFrom_below (Nat.le_refl _) (by simp)))
    (fun _ _ _ _ _ hs _ _ => hs)
    ⟨⟨_, bO, World.ownsRow_nil _ _ _ _, by simp⟩, hB0⟩
    (fun x => { tmps := #[.slice none 0 0, .func (.func 184) #[] #[.pointer (some ⟨Bs, 0, none⟩)], .pointer (some ⟨w.heap.size, 0, none⟩), undef, .slice none 0 0, .int .i64 x, .func (.func 184) #[] #[.pointer (some ⟨Bs, 0, none⟩)], .int .i64 x, undef, undef, undef, undef, undef], defers := [] }) ?assign ?body ?done ?stop
  case assign =>
    intro l x W K hK
    gi_wp2
    exact hK
  case body =>
    rintro l pre x W ⟨⟨v, hv, hrow, hnil⟩, hB⟩ hlt
    have hc := hv.cell
    gi_wp2_with (gi_at_builtin; refine wpListIn_append_own _ rfl _ _ 56 rfl w.heap.size 3 i0 (.int .i64 0) 1 8 Tryz.underlying56 hi hz0 hz1 hz2 rfl (by decide) _ _ _ rfl (hrow.alloc _) ⟨W.heap.size, 0, none⟩ 1 1 [.int .i64 x] rfl rfl (cell_one_new _ _ _) (by simp [Value.oneCell']) (by omega) (by omega) (by have := hB.size; simp; omega) ?_; intro v' w1 hown' hgrow _; obtain ⟨g', cap', rfl⟩ := ownsRow_succ hown'; obtain ⟨hv1, hv2, hr2, hk2, hb2⟩ := hv.appended (by decide) hrow hB.size (Nat.le_refl _) hown' hgrow; have hc1 := hv1.cell; have hf1 := hv1.frozen)
    exact ⟨hk2.from _, hb2, ⟨_, hv2, by simpa using hr2, by simp⟩, hB.trans hb2⟩
  case done =>
    rintro D ys W hD rfl ⟨⟨v, hv, hrow, hnil⟩, hB⟩ hK
    have hc := hv.cell
    gi_wp2
    refine ⟨by simp, .inl ⟨_, _, rfl, run_takeDeferred hK, ?_⟩⟩
    exact ⟨_, results_tmp rfl _ _ _, v, rfl, ownsRow_putObj hrow _ hK rfl, hnil, hB.trans (belowK_b (w := w) (Nat.le_refl _) W D _ _ (by simp at hD; omega) hK rfl rfl)⟩
  case stop =>
    rintro D c pre W _ _ h _
    exact h.elim
set_option maxHeartbeats 1000000 in
theorem collect_in (n : Nat) (hn : 4 ≤ n) (Bs : Nat) (sv : Value) (zs : List Int) (hlen : zs.length ≤ maxLen) (hreach : zs.length * 8 ≤ 140737488351232) (w : World) (hBs : Bs < w.heap.size)
    (hc : w.cell? ⟨Bs, 0, none⟩ = some sv) (hI : Ints w.heap.size w sv zs) :
    CallsIn Fence.wide n Tryz.prog 147 #[.func (.func 184) #[] #[.pointer (some ⟨Bs, 0, none⟩)]] w fun e W' =>
      ∃ v, e = .returned v ∧ W'.ownsRow w.heap.size 3 1 v zs.length (zs.map (Value.int .i64)) ∧ (v = .slice none 0 0 ↔ zs = []) ∧ Below w.heap.size w W' := by
  refine callsIn_of_wp Tryz.func147 rfl trivial ?_ rfl
  simp only [Tryz.ntmps147, List.size_toArray, List.length_cons, List.length_nil, Nat.reduceAdd, Nat.reduceSub, Array.replicate_succ, Array.replicate_zero, List.push_toArray, List.append_toArray, List.nil_append, List.cons_append]
  have h1 : 1 ≤ n := by omega
  have hfA : Fence.wide.fn 175 := trivial
  have cA := app_in (n - 1) (by omega) Bs sv zs hlen hreach w hBs hc hI
  gi_wp2_with (gi_at_call 175; refine cA.mono ?_; rintro e w' ⟨v, rfl, hrow, hnil, hb⟩)
  go_ret
  exact ⟨v, rfl, hrow, hnil, hb⟩
def srt (zs : List Int) : List Int := zs.mergeSort (fun x y => decide (x ≤ y))
theorem srt_length (zs : List Int) : (srt zs).length = zs.length := List.length_mergeSort _
set_option maxHeartbeats 1000000 in
theorem sorted_in (n : Nat) (hn : 5 ≤ n) (Bs : Nat) (sv : Value) (zs : List Int) (hlen : zs.length ≤ maxLen) (hreach : zs.length * 8 ≤ 140737488351232) (w : World) (hBs : Bs < w.heap.size)
    (hc : w.cell? ⟨Bs, 0, none⟩ = some sv) (hI : Ints w.heap.size w sv zs) :
    CallsIn Fence.wide n Tryz.prog 113 #[.func (.func 184) #[] #[.pointer (some ⟨Bs, 0, none⟩)]] w fun e W' =>
      ∃ v, e = .returned v ∧ W'.ownsRow w.heap.size 3 1 v zs.length ((srt zs).map (Value.int .i64)) ∧ Below w.heap.size w W' := by
  refine callsIn_of_wp Tryz.func113 rfl trivial ?_ rfl
  simp only [Tryz.ntmps113, List.size_toArray, List.length_cons, List.length_nil, Nat.reduceAdd, Nat.reduceSub, Array.replicate_succ, Array.replicate_zero, List.push_toArray, List.append_toArray, List.nil_append, List.cons_append]
  have h1 : 1 ≤ n := by omega
  have hfC : Fence.wide.fn 147 := trivial
  have hfS : Fence.wide.fn 69 := trivial
  have cC := collect_in (n - 1) (by omega) Bs sv zs hlen hreach w hBs hc hI
  gi_wp2_with (gi_at_call 147; refine cC.mono ?_; rintro e W ⟨v, rfl, hrow, hnil, hb⟩)
  rcases hrow.2 with ⟨rfl, hz⟩ | ⟨gb, cap, cur, rfl, hbase, hgb, r1, r2, r3, r4⟩
  · have hss : zs = [] := List.eq_nil_of_length_eq_zero hz
    subst hss
    have cS : CallsIn Fence.wide (n - 1) Tryz.prog 69 #[.slice none 0 0] W fun e w' => e = .returned (.tuple #[]) ∧ w' = W := callsIn_wide.2 (Tryz.slices_Sort_int_none none 0 W)
    gi_wp2_with (gi_at_call 69; refine cS.mono ?_; rintro e w' ⟨rfl, rfl⟩)
    go_ret
    exact ⟨.slice none 0 0, rfl, by simpa [srt] using hrow, hb⟩
  · have hH : Holds (Value.int .i64) W gb 0 zs.toArray := holds_of_blockI hgb (by simpa using r4)
    have hgl : gb < W.heap.size := (Array.getElem?_eq_some_iff.1 hgb).1
    have hsz : zs.length < 4611686018427387904 := by omega
    have cS := (callsIn_wide (n := n - 1)).2 (Tryz.slices_Sort_int gb 0 cap zs W hH hgl hsz)
    gi_wp2_with (gi_at_call 69; refine cS.mono ?_; rintro e w' ⟨rfl, nn, os, rfl⟩)
    go_ret
    exact ⟨_, rfl, ownsRow_sortedI (srt_length zs) hbase hgb r1 r2 r3, hb.grown (grownBy_sortedI _) hb.size (fun j hj => by cases hj; exact hbase)⟩
set_option maxHeartbeats 1000000 in
theorem values_in (n : Nat) (A : Option Addr) (len cap : Nat) (w : World) :
    CallsIn Fence.wide n Tryz.prog 162 #[.slice A len cap] w fun e w' => e = .returned (.func (.func 184) #[] #[.pointer (some ⟨w.heap.size, 0, none⟩)]) ∧ w' = w.alloc (.cells #[.slice A len cap] 56) := by
  refine callsIn_of_wp Tryz.func162 rfl trivial ?_ rfl
  simp only [Tryz.ntmps162, List.size_toArray, List.length_cons, List.length_nil, Nat.reduceAdd, Nat.reduceSub, Array.replicate_succ, Array.replicate_zero, List.push_toArray, List.append_toArray, List.nil_append, List.cons_append]
  gi_wp2
  go_ret
  exact ⟨rfl, rfl⟩
theorem ints_of_C {w : World} {A : Option Addr} {n c : Nat} {l : List Int} (h : Kd.C (Kd.int .i64) w A n l) : Ints w.heap.size w (.slice A n c) l := by
  obtain ⟨rfl, _, hp⟩ := h
  cases l with
  | nil => exact .inl ⟨A, c, rfl, rfl⟩
  | cons x l =>
    obtain ⟨ad, rfl, hrow⟩ := hp (by simp)
    have hc : ∀ j, j < (x :: l).length → w.cell? (ad.add j) = some (.int .i64 ((x :: l)[j]?.getD 0)) := fun j hj => by
      obtain ⟨c, hcl, hK, hcc⟩ := hrow j _ (List.getElem?_eq_getElem hj)
      have hK' : c = [Value.int .i64 ((x :: l)[j])] := hK
      have := hcc 0 (.int .i64 ((x :: l)[j])) (by rw [hK']; rfl)
      rw [List.getElem?_eq_getElem hj]
      simpa [Kd.int, Kd.scalar] using this
    refine .inr ⟨ad, c, rfl, ?_, hc⟩
    have h6 := World.block_lt_of_cell? w _ (hc 0 (by simp))
    rwa [add_block] at h6
theorem row_cell {W : World} {base n k : Nat} {v : Value} {zs : List Int} (h : W.ownsRow base 3 1 v n (zs.map (Value.int .i64))) (hl : zs.length = n) (hk : k < n) :
    ∃ g cap, v = .slice (some ⟨g, 0, none⟩) n cap ∧ W.cell? ⟨g, k, none⟩ = some (.int .i64 (zs.getD k 0)) := by
  rcases h.2 with ⟨_, hz⟩ | ⟨g, cap, cur, rfl, _, hgb, _, _, _, r4⟩
  · omega
  · refine ⟨g, cap, rfl, ?_⟩
    have e : (cur.toList.take (n * 1))[k]? = (zs.map (Value.int .i64))[k]? := by rw [r4]
    rw [List.getElem?_take_of_lt (by omega), List.getElem?_map, List.getElem?_eq_getElem (show k < zs.length by omega)] at e
    rw [blk_cell hgb, ← Array.getElem?_toList, e, List.getD_eq_getElem?_getD, List.getElem?_eq_getElem (show k < zs.length by omega)]
    rfl
def least (k : Int) (l : List Int) : Int := if 0 ≤ k ∧ k < (l.length : Int) then (srt l).getD k.toNat 0 else 0
def has (k : Int) (l : List Int) : Bool := decide (0 ≤ k ∧ k < (l.length : Int))
set_option maxHeartbeats 2000000 in
theorem least_calls (k : Int) (A : Option Addr) (n c : Nat) (l : List Int) (w : World) (hr : Kd.C (Kd.int .i64) w A n l) (hreach : l.length * 8 ≤ 140737488351232) :
    Calls Tryz.prog 125 #[.int .i64 k, .slice A n c] w fun e w' => e = .returned (.tuple #[.int .i64 (least k l), .bool (has k l)]) ∧ Below w.heap.size w w' := by
  have hI : Ints w.heap.size w (.slice A n c) l := ints_of_C hr
  obtain ⟨rfl, hm, -⟩ := hr
  refine (callsIn_wide (n := 8)).1 ?_
  have hfV : Fence.wide.fn 162 := trivial
  have hfS : Fence.wide.fn 113 := trivial
  refine callsIn_of_wp Tryz.func125 rfl trivial ?_ rfl
  simp only [Tryz.ntmps125, List.size_toArray, List.length_cons, List.length_nil, Nat.reduceAdd, Nat.reduceSub, Array.replicate_succ, Array.replicate_zero, List.push_toArray, List.append_toArray, List.nil_append, List.cons_append]
  by_cases h0 : k < 0
  · have e1 : least k l = 0 := by unfold least; rw [if_neg (by omega)]
    have e2 : has k l = false := by unfold has; exact decide_eq_false (by omega)
    rw [e1, e2]
    gi_wp2
    refine bodyPost_ret (results_tmp2 rfl _ _ _) rfl ?_
    exact ⟨rfl, Below.refl _ _⟩
  · by_cases h1 : k < (l.length : Int)
    · have e1 : least k l = (srt l).getD k.toNat 0 := by unfold least; rw [if_pos (by omega)]
      have e2 : has k l = true := by unfold has; exact decide_eq_true (by omega)
      rw [e1, e2]
      have hb1 : Below w.heap.size w (w.alloc (.cells #[.slice A l.length c] 56)) := (Below.refl _ w).alloc (Nat.le_refl _) _
      have cV := values_in 7 A l.length c w
      have cS := sorted_in 7 (by omega) w.heap.size (.slice A l.length c) l (by unfold maxLen; omega) hreach (w.alloc (.cells #[.slice A l.length c] 56)) (by simp) (by simp) ((hI.below hb1).mono (by simp))
      gi_wp2_with (first
        | (gi_at_call 162; refine cV.mono ?_; rintro e w' ⟨rfl, rfl⟩)
        | (gi_at_call 113; refine cS.mono ?_; rintro e W ⟨v, rfl, hrow, hb⟩; obtain ⟨gb, cap, rfl, hcell⟩ := row_cell hrow (srt_length l) (k := k.toNat) (by omega)))
      refine bodyPost_ret (results_tmp2 rfl _ _ _) rfl ?_
      exact ⟨rfl, hb1.trans (hb.mono (by simp))⟩
    · have e1 : least k l = 0 := by unfold least; rw [if_neg (by omega)]
      have e2 : has k l = false := by unfold has; exact decide_eq_false (by omega)
      rw [e1, e2]
      gi_wp2
      refine bodyPost_ret (results_tmp2 rfl _ _ _) rfl ?_
      exact ⟨rfl, Below.refl _ _⟩
end Go.Proofs.YtdaohldmojpihaaGreatDoor.So

namespace Go.Proofs.YtdaohldmojpihaaGreatDoor.X
open Go.RowKit Go.Proofs.YtdaohldmojpihaaGreatDoorW.PrintWords Go.Proofs.YtdaohldmojpihaaGreatDoorW.PrintLast Go.Proofs.YtdaohldmojpihaaGreatDoorW.PrintMore
def trim_Least.f (a0 : Int) (l1 : List Int) : Option (Int × Bool) := if l1.length * 8 ≤ 140737488351232 then some (So.least a0 l1, So.has a0 l1) else none
theorem trim_Least.calls (a0 : Int) (A1 : Option Addr) (c1 : Nat) (l1 : List Int) (r1 : Int) (r2 : Bool) (w : World) (hr1 : Kd.C (Kd.int .i64) w A1 l1.length l1) (_hc1 : l1.length ≤ c1) (h : trim_Least.f a0 l1 = some (r1, r2)) :
    Calls Tryz.prog 125 #[.int .i64 a0, .slice A1 l1.length c1] w fun e w' => e = .returned (.tuple #[.int .i64 r1, .bool r2]) ∧ Below w.heap.size w w' := by
  unfold trim_Least.f at h
  split at h
  · rename_i hl
    obtain ⟨rfl, rfl⟩ := Prod.mk.inj (Option.some.inj h)
    exact So.least_calls a0 A1 l1.length c1 l1 w hr1 hl
  · cases h
end Go.Proofs.YtdaohldmojpihaaGreatDoor.X
