-- Laid by a program of this session out of the translation (over the print of the kit); Lean checks it.
import Derived.Test.YtaiggeogiolbnaaH0
import Derived.Test.YtaiggeogiolbnaaH2
import Derived.Test.YtaiggeogiolbnaaH11
import Derived.Test.YtaiggeogiolbnaaH14
namespace Go.Proofs.Ytaiggeogiolbnaa.H
open Go.RowKit Go.Proofs.YtaiggeogiolbnaaW.PrintWords Go.Proofs.YtaiggeogiolbnaaW.PrintLast Go.Proofs.YtaiggeogiolbnaaW.PrintMore
attribute [local go_sem] max2_int min2_int max_two min_two max_three min_three max_four min_four   -- for this text's walks alone
set_option linter.unusedVariables false
set_option linter.unusedSimpArgs false

/-! ### carry_Way: function 33 -/
def carry_Way.f (k : Nat) (a0_0 : Int) (a0_1 : Int) (a0_2 : Int) (a0_3 : Int) (a0_4 : Int) (a0_5 : Int) (a0_6 : Int) (a0_7 : Int) (a0_8 : Int) (a0_9 : Int) (a0_10 : Int) (a0_11 : Int) (a1_0 : Int) (a1_1 : Int) (a2 : Int) : Option (Int × Int) := (sat_Sub.f k a0_5 a0_6).bind fun t311 => ((sat_Neg.f k a0_4).bind fun t312 => ((sat_Add.f k (([t311, a2, t312] : List Int))).bind fun t316 => ((sat_Add.f k (([a0_5, a2, a0_4] : List Int))).bind fun t320 => ((span_Shift.f k a1_0 a1_1 t316 t320).bind fun bt321 => (some (bt321.1, bt321.2))))))
theorem carry_Way.mono : ∀ a0 a1 a2 a3 a4 a5 a6 a7 a8 a9 a10 a11 a12 a13 a14 k, LeO (carry_Way.f k a0 a1 a2 a3 a4 a5 a6 a7 a8 a9 a10 a11 a12 a13 a14) (carry_Way.f (k + 1) a0 a1 a2 a3 a4 a5 a6 a7 a8 a9 a10 a11 a12 a13 a14) := by
  intro a0 a1 a2 a3 a4 a5 a6 a7 a8 a9 a10 a11 a12 a13 a14 k
  unfold carry_Way.f
  repeat' first
      | (with_reducible exact sat_Add.mono _ _)
      | (with_reducible exact sat_Neg.mono _ _)
      | (with_reducible exact sat_Sub.mono _ _ _)
      | (with_reducible exact span_Shift.mono _ _ _ _ _)
      | (with_reducible exact LeO.refl _)
      | (with_reducible exact LeO.none _)
      | (with_reducible refine LeO.ite ?_ ?_)
      | (with_reducible refine LeO.bind ?_ (fun _ => ?_))
      | exact sat_Add.mono _ _
      | exact sat_Neg.mono _ _
      | exact sat_Sub.mono _ _ _
      | exact span_Shift.mono _ _ _ _ _
      | exact LeO.none _
      | refine LeO.ite ?_ ?_
      | refine LeO.bind ?_ (fun _ => ?_)
def carry_Way.T1 : Bool × List (List Nat × List Nat) := (true, [([], []), ([], []), ([1], [1]), ([], []), ([3], [3]), ([2, 4], [2, 4]), ([], []), ([], []), ([7], [7]), ([8, 5], [8]), ([5, 6, 9], [5, 6, 9]), ([10, 9], [10]), ([], []), ([12], [12]), ([], []), ([], []), ([15], [15]), ([13, 14, 16], [13, 14, 16]), ([17, 11], [17]), ([0, 11, 18, 18], [0, 11, 18]), ([19, 19, 0, 1, 2, 3, 4, 5, 6, 7, 8, 9, 10, 11, 12, 13, 14, 15, 16, 17, 18, 19], [19])])
def carry_Way.B1 : List Nat := [0, 0, 2, 0, 8, 30, 0, 0, 128, 446, 1022, 2046, 0, 4096, 0, 0, 32768, 126976, 262142, 524287, 1048575]
theorem carry_Way.tab1 : rtab .any (opsOf Try.f33 1) = carry_Way.T1 := by kernel_rfl
theorem carry_Way.bits1 : waitsOk carry_Way.T1.2 carry_Way.B1 = true := by kernel_rfl
set_option maxHeartbeats 8000000 in
set_option maxRecDepth 100000 in
theorem carry_Way.calls (k : Nat) (a0_0 : Int) (a0_1 : Int) (a0_2 : Int) (a0_3 : Int) (a0_4 : Int) (a0_5 : Int) (a0_6 : Int) (a0_7 : Int) (a0_8 : Int) (a0_9 : Int) (a0_10 : Int) (a0_11 : Int) (a1_0 : Int) (a1_1 : Int) (a2 : Int) (r1 : Int) (r2 : Int) (w : World) (h : carry_Way.f k a0_0 a0_1 a0_2 a0_3 a0_4 a0_5 a0_6 a0_7 a0_8 a0_9 a0_10 a0_11 a1_0 a1_1 a2 = some (r1, r2)) :
    Calls Try.prog 33 #[.agg #[.int .i64 a0_0, .int .i64 a0_1, .int .i64 a0_2, .int .i64 a0_3, .int .i64 a0_4, .int .i64 a0_5, .int .i64 a0_6, .int .i64 a0_7, .int .i64 a0_8, .int .i64 a0_9, .int .i64 a0_10, .int .i64 a0_11], .agg #[.int .i64 a1_0, .int .i64 a1_1], .int .i64 a2] w fun e w' => e = .returned (.agg #[.int .i64 r1, .int .i64 r2]) ∧ Below w.heap.size w w' := by
  have hu23 := Try.underlying23
  have hu33 := Try.underlying33
  have HB := Aside0.mk (Below.refl w.heap.size w)
  have H : ((sat_Sub.f k a0_5 a0_6).bind fun t311 => ((sat_Neg.f k a0_4).bind fun t312 => ((sat_Add.f k (([t311, a2, t312] : List Int))).bind fun t316 => ((sat_Add.f k (([a0_5, a2, a0_4] : List Int))).bind fun t320 => ((span_Shift.f k a1_0 a1_1 t316 t320).bind fun bt321 => (some (bt321.1, bt321.2))))))) = some (r1, r2) := h
  clear h
  replace H := Option.bind_eq_some_iff.mp H
  obtain ⟨t311, A40, H⟩ := H
  replace H : ((sat_Neg.f k a0_4).bind fun t312 => ((sat_Add.f k (([t311, a2, t312] : List Int))).bind fun t316 => ((sat_Add.f k (([a0_5, a2, a0_4] : List Int))).bind fun t320 => ((span_Shift.f k a1_0 a1_1 t316 t320).bind fun bt321 => (some (bt321.1, bt321.2)))))) = some (r1, r2) := H
  have A4 := Aside0.mk A40
  clear A40
  replace H := Option.bind_eq_some_iff.mp H
  obtain ⟨t312, A50, H⟩ := H
  replace H : ((sat_Add.f k (([t311, a2, t312] : List Int))).bind fun t316 => ((sat_Add.f k (([a0_5, a2, a0_4] : List Int))).bind fun t320 => ((span_Shift.f k a1_0 a1_1 t316 t320).bind fun bt321 => (some (bt321.1, bt321.2))))) = some (r1, r2) := H
  have A5 := Aside0.mk A50
  clear A50
  obtain ⟨y313, hy313⟩ : ∃ y_ : List Int, y_ = (([t311, a2, t312] : List Int)) := ⟨_, rfl⟩
  replace H : ((sat_Add.f k y313).bind fun t316 => ((sat_Add.f k (([a0_5, a2, a0_4] : List Int))).bind fun t320 => ((span_Shift.f k a1_0 a1_1 t316 t320).bind fun bt321 => (some (bt321.1, bt321.2))))) = some (r1, r2) := by first | (rw [hy313]; with_reducible exact H) | (have H2_ := (Option.bind_some _ _).symm.trans H; rw [hy313]; with_reducible exact H2_) | (have H2_ := (Option.bind_some _ _).symm.trans H; with_reducible exact H2_) | with_reducible exact H | (rw [hy313]; exact H) | exact H
  have Ny313 := Aside0.mk hy313
  clear hy313
  replace H := Option.bind_eq_some_iff.mp H
  obtain ⟨t316, A60, H⟩ := H
  replace H : ((sat_Add.f k (([a0_5, a2, a0_4] : List Int))).bind fun t320 => ((span_Shift.f k a1_0 a1_1 t316 t320).bind fun bt321 => (some (bt321.1, bt321.2)))) = some (r1, r2) := H
  have A6 := Aside0.mk A60
  clear A60
  obtain ⟨y317, hy317⟩ : ∃ y_ : List Int, y_ = (([a0_5, a2, a0_4] : List Int)) := ⟨_, rfl⟩
  replace H : ((sat_Add.f k y317).bind fun t320 => ((span_Shift.f k a1_0 a1_1 t316 t320).bind fun bt321 => (some (bt321.1, bt321.2)))) = some (r1, r2) := by first | (rw [hy317]; with_reducible exact H) | (have H2_ := (Option.bind_some _ _).symm.trans H; rw [hy317]; with_reducible exact H2_) | (have H2_ := (Option.bind_some _ _).symm.trans H; with_reducible exact H2_) | with_reducible exact H | (rw [hy317]; exact H) | exact H
  have Ny317 := Aside0.mk hy317
  clear hy317
  replace H := Option.bind_eq_some_iff.mp H
  obtain ⟨t320, A70, H⟩ := H
  replace H : ((span_Shift.f k a1_0 a1_1 t316 t320).bind fun bt321 => (some (bt321.1, bt321.2))) = some (r1, r2) := H
  have A7 := Aside0.mk A70
  clear A70
  replace H := Option.bind_eq_some_iff.mp H
  obtain ⟨⟨t321, t322⟩, A80, H⟩ := H
  replace H : (some (t321, t322)) = some (r1, r2) := H
  have A8 := Aside0.mk A80
  clear A80
  simp only [Option.some.injEq, Prod.mk.injEq] at H
  obtain ⟨rfl, rfl⟩ := H
  go_enter Try.func33, Try.ntmps33
  try go_wp2_with (first | ((with_reducible refine gate_dst (N := 3) rfl ?_); refine box_event ?hg (N := 3) ?hd (cs := #[.int .i64 a0_0, .int .i64 a0_1, .int .i64 a0_2, .int .i64 a0_3, .int .i64 a0_4, .int .i64 a0_5, .int .i64 a0_6, .int .i64 a0_7, .int .i64 a0_8, .int .i64 a0_9, .int .i64 a0_10, .int .i64 a0_11]) (t := 23) ?hr ?_; (case hd => rfl); (case hg => rfl); (case hr => first | (go_simp; done) | (go_simp; rfl)); intro gb308 hg w9 hbox hb; have n0_ := Aside0.mk (below_step (by repeat (first | (with_reducible first | exact HB.out | apply below_alloc | apply pw_below_drewN | apply below_drew1) | exact HB.out)) hb); have n1_ := Aside0.mk (hbox); have n2_ := Aside0.mk ((by rw [hg]; exact (below_size (by repeat (first | (with_reducible first | exact HB.out | apply below_alloc | apply pw_below_drewN | apply below_drew1) | exact HB.out))) : w.heap.size ≤ gb308)); have n3_ := Aside0.mk ((by rw [hg]; exact (below_size (by repeat (first | (with_reducible first | exact HB.out | apply below_alloc | apply pw_below_drewN | apply below_drew1) | exact HB.out))) : w.heap.size ≤ gb308)); clear HB; have HB := n0_; have BK308 := n1_; have GW308 := n2_; have GE308 := n3_; clear n0_ n1_ n2_ n3_; clear hb hbox hg) | ((with_reducible refine gate_dst (N := 4) rfl ?_); refine box_event ?hg (N := 4) ?hd (cs := #[.int .i64 a1_0, .int .i64 a1_1]) (t := 33) ?hr ?_; (case hd => rfl); (case hg => rfl); (case hr => first | (go_simp; done) | (go_simp; rfl)); intro gb309 hg w10 hbox hb; have n0_ := Aside0.mk (blk_below (g := gb308) (o := .cells #[.int .i64 a0_0, .int .i64 a0_1, .int .i64 a0_2, .int .i64 a0_3, .int .i64 a0_4, .int .i64 a0_5, .int .i64 a0_6, .int .i64 a0_7, .int .i64 a0_8, .int .i64 a0_9, .int .i64 a0_10, .int .i64 a0_11] 23 (0, 0)) (by (with_reducible repeat (first | refine blk_drewN ?_ _ | refine blk_drew ?_ | refine blk_alloc ?_ _)); exact BK308.out) hb); have n1_ := Aside0.mk (below_step (by repeat (first | (with_reducible first | exact HB.out | apply below_alloc | apply pw_below_drewN | apply below_drew1 | refine below_set ?_ GE308.out) | exact HB.out)) hb); have n2_ := Aside0.mk (hbox); have n3_ := Aside0.mk ((by rw [hg]; exact (below_size (by repeat (first | (with_reducible first | exact HB.out | apply below_alloc | apply pw_below_drewN | apply below_drew1 | refine below_set ?_ GE308.out) | exact HB.out))) : w.heap.size ≤ gb309)); have n4_ := Aside0.mk ((by rw [hg]; exact (below_size (by repeat (first | (with_reducible first | exact HB.out | apply below_alloc | apply pw_below_drewN | apply below_drew1 | refine below_set ?_ GE308.out) | exact HB.out))) : w.heap.size ≤ gb309)); have n5_ := Aside0.mk ((by rw [hg]; exact Nat.ne_of_lt (blk_lt (g := gb308) (o := .cells #[.int .i64 a0_0, .int .i64 a0_1, .int .i64 a0_2, .int .i64 a0_3, .int .i64 a0_4, .int .i64 a0_5, .int .i64 a0_6, .int .i64 a0_7, .int .i64 a0_8, .int .i64 a0_9, .int .i64 a0_10, .int .i64 a0_11] 23 (0, 0)) (by (with_reducible repeat (first | refine blk_drewN ?_ _ | refine blk_drew ?_ | refine blk_alloc ?_ _)); exact BK308.out)) : gb308 ≠ gb309)); have n6_ := Aside0.mk ((by rw [hg]; exact Nat.ne_of_gt (blk_lt (g := gb308) (o := .cells #[.int .i64 a0_0, .int .i64 a0_1, .int .i64 a0_2, .int .i64 a0_3, .int .i64 a0_4, .int .i64 a0_5, .int .i64 a0_6, .int .i64 a0_7, .int .i64 a0_8, .int .i64 a0_9, .int .i64 a0_10, .int .i64 a0_11] 23 (0, 0)) (by (with_reducible repeat (first | refine blk_drewN ?_ _ | refine blk_drew ?_ | refine blk_alloc ?_ _)); exact BK308.out)) : gb309 ≠ gb308)); clear BK308; clear HB; have BK308 := n0_; have HB := n1_; have BK309 := n2_; have GW309 := n3_; have GE309 := n4_; have NB308_309 := n5_; have NB309_308 := n6_; clear n0_ n1_ n2_ n3_ n4_ n5_ n6_; clear hb hbox hg) | ((with_reducible refine gate_dst (N := 6) rfl ?_); refine box_event ?hg (N := 6) ?hd (cs := #[.int .i64 0, .int .i64 0]) (t := 33) ?hr ?_; (case hd => rfl); (case hg => rfl); (case hr => first | (go_simp; done) | (go_simp; rfl)); intro gb310 hg w11 hbox hb; have n0_ := Aside0.mk (blk_below (g := gb308) (o := .cells #[.int .i64 a0_0, .int .i64 a0_1, .int .i64 a0_2, .int .i64 a0_3, .int .i64 a0_4, .int .i64 a0_5, .int .i64 a0_6, .int .i64 a0_7, .int .i64 a0_8, .int .i64 a0_9, .int .i64 a0_10, .int .i64 a0_11] 23 (0, 0)) (by (with_reducible repeat (first | refine blk_drewN ?_ _ | refine blk_drew ?_ | refine blk_alloc ?_ _)); exact BK308.out) hb); have n1_ := Aside0.mk (blk_below (g := gb309) (o := .cells #[.int .i64 a1_0, .int .i64 a1_1] 33 (0, 0)) (by (with_reducible repeat (first | refine blk_drewN ?_ _ | refine blk_drew ?_ | refine blk_alloc ?_ _)); exact BK309.out) hb); have n2_ := Aside0.mk (below_step (by repeat (first | (with_reducible first | exact HB.out | apply below_alloc | apply pw_below_drewN | apply below_drew1 | refine below_set ?_ GE308.out | refine below_set ?_ GE309.out) | exact HB.out)) hb); have n3_ := Aside0.mk (hbox); have n4_ := Aside0.mk ((by rw [hg]; exact (below_size (by repeat (first | (with_reducible first | exact HB.out | apply below_alloc | apply pw_below_drewN | apply below_drew1 | refine below_set ?_ GE308.out | refine below_set ?_ GE309.out) | exact HB.out))) : w.heap.size ≤ gb310)); have n5_ := Aside0.mk ((by rw [hg]; exact (below_size (by repeat (first | (with_reducible first | exact HB.out | apply below_alloc | apply pw_below_drewN | apply below_drew1 | refine below_set ?_ GE308.out | refine below_set ?_ GE309.out) | exact HB.out))) : w.heap.size ≤ gb310)); have n6_ := Aside0.mk ((by rw [hg]; exact Nat.ne_of_lt (blk_lt (g := gb308) (o := .cells #[.int .i64 a0_0, .int .i64 a0_1, .int .i64 a0_2, .int .i64 a0_3, .int .i64 a0_4, .int .i64 a0_5, .int .i64 a0_6, .int .i64 a0_7, .int .i64 a0_8, .int .i64 a0_9, .int .i64 a0_10, .int .i64 a0_11] 23 (0, 0)) (by (with_reducible repeat (first | refine blk_drewN ?_ _ | refine blk_drew ?_ | refine blk_alloc ?_ _)); exact BK308.out)) : gb308 ≠ gb310)); have n7_ := Aside0.mk ((by rw [hg]; exact Nat.ne_of_gt (blk_lt (g := gb308) (o := .cells #[.int .i64 a0_0, .int .i64 a0_1, .int .i64 a0_2, .int .i64 a0_3, .int .i64 a0_4, .int .i64 a0_5, .int .i64 a0_6, .int .i64 a0_7, .int .i64 a0_8, .int .i64 a0_9, .int .i64 a0_10, .int .i64 a0_11] 23 (0, 0)) (by (with_reducible repeat (first | refine blk_drewN ?_ _ | refine blk_drew ?_ | refine blk_alloc ?_ _)); exact BK308.out)) : gb310 ≠ gb308)); have n8_ := Aside0.mk ((by rw [hg]; exact Nat.ne_of_lt (blk_lt (g := gb309) (o := .cells #[.int .i64 a1_0, .int .i64 a1_1] 33 (0, 0)) (by (with_reducible repeat (first | refine blk_drewN ?_ _ | refine blk_drew ?_ | refine blk_alloc ?_ _)); exact BK309.out)) : gb309 ≠ gb310)); have n9_ := Aside0.mk ((by rw [hg]; exact Nat.ne_of_gt (blk_lt (g := gb309) (o := .cells #[.int .i64 a1_0, .int .i64 a1_1] 33 (0, 0)) (by (with_reducible repeat (first | refine blk_drewN ?_ _ | refine blk_drew ?_ | refine blk_alloc ?_ _)); exact BK309.out)) : gb310 ≠ gb309)); clear BK308; clear BK309; clear HB; have BK308 := n0_; have BK309 := n1_; have HB := n2_; have BK310 := n3_; have GW310 := n4_; have GE310 := n5_; have NB308_310 := n6_; have NB310_308 := n7_; have NB309_310 := n8_; have NB310_309 := n9_; clear n0_ n1_ n2_ n3_ n4_ n5_ n6_ n7_ n8_ n9_; clear hb hbox hg))
  have n0_ := Aside0.mk (blk_drew BK308.out)
  have n1_ := Aside0.mk (blk_drew BK309.out)
  have n2_ := Aside0.mk (blk_drew BK310.out)
  have n3_ := Aside0.mk (below_drew1 HB.out)
  clear BK308
  clear BK309
  clear BK310
  clear HB
  have BK308 := n0_
  have BK309 := n1_
  have BK310 := n2_
  have HB := n3_
  clear n0_ n1_ n2_ n3_
  refine start_ (n := 21) (S := fun w' => w'.cell? ⟨gb309, 0, none⟩ = some (.int .i64 a1_0) ∧ w'.cell? ⟨gb309, 1, none⟩ = some (.int .i64 a1_1) ∧ w'.cell? ⟨gb308, 0, none⟩ = some (.int .i64 a0_0) ∧ w'.cell? ⟨gb308, 1, none⟩ = some (.int .i64 a0_1) ∧ w'.cell? ⟨gb308, 2, none⟩ = some (.int .i64 a0_2) ∧ w'.cell? ⟨gb308, 3, none⟩ = some (.int .i64 a0_3) ∧ w'.cell? ⟨gb308, 4, none⟩ = some (.int .i64 a0_4) ∧ w'.cell? ⟨gb308, 5, none⟩ = some (.int .i64 a0_5) ∧ w'.cell? ⟨gb308, 6, none⟩ = some (.int .i64 a0_6) ∧ w'.cell? ⟨gb308, 7, none⟩ = some (.int .i64 a0_7) ∧ w'.cell? ⟨gb308, 8, none⟩ = some (.int .i64 a0_8) ∧ w'.cell? ⟨gb308, 9, none⟩ = some (.int .i64 a0_9) ∧ w'.cell? ⟨gb308, 10, none⟩ = some (.int .i64 a0_10) ∧ w'.cell? ⟨gb308, 11, none⟩ = some (.int .i64 a0_11)) (ds := []) #[false, false, false, false, false, false, false, false, false, false, false, false, false, false, false, false, false, false, false, false, false] (by kernel_rfl) rfl rfl ⟨(blk_cell BK309.out 0).trans rfl, (blk_cell BK309.out 1).trans rfl, (blk_cell BK308.out 0).trans rfl, (blk_cell BK308.out 1).trans rfl, (blk_cell BK308.out 2).trans rfl, (blk_cell BK308.out 3).trans rfl, (blk_cell BK308.out 4).trans rfl, (blk_cell BK308.out 5).trans rfl, (blk_cell BK308.out 6).trans rfl, (blk_cell BK308.out 7).trans rfl, (blk_cell BK308.out 8).trans rfl, (blk_cell BK308.out 9).trans rfl, (blk_cell BK308.out 10).trans rfl, (blk_cell BK308.out 11).trans rfl⟩ (fun hHeld => ?_); refine with_tabW carry_Way.tab1 carry_Way.bits1 (fun HT_ HW_ => ?_)
  generalize w11.drew = w12 at BK308 BK309 BK310 HB hHeld ⊢
  refine pure_ (i := 1) (N := some 8) (v := ?_) (a' := ?_) #[false, true, false, false, false, false, false, false, false, false, false, false, false, false, false, false, false, false, false, false, false] rfl rfl (any_of HT_.out (by kernel_rfl)) (fun _ _ _ h => h) (Or.inl ⟨by rfl, ?_⟩) ?_ ?_
  rotate_left
  · intro w'
    go_simp
    with_reducible rfl
  rotate_left
  · simp only [Act.put, List.setIfInBounds_toArray, List.set_cons_zero, List.set_cons_succ, i64_w, i32_w]
    rfl
  refine pure_ (i := 3) (N := some 10) (v := ?_) (a' := ?_) #[false, true, false, true, false, false, false, false, false, false, false, false, false, false, false, false, false, false, false, false, false] rfl rfl (any_of HT_.out (by kernel_rfl)) (fun _ _ _ h => h) (Or.inl ⟨by rfl, ?_⟩) ?_ ?_
  rotate_left
  · intro w'
    go_simp
    with_reducible rfl
  rotate_left
  · simp only [Act.put, List.setIfInBounds_toArray, List.set_cons_zero, List.set_cons_succ, i64_w, i32_w]
    rfl
  refine pure_ (i := 6) (N := some 13) (v := ?_) (a' := ?_) #[false, true, false, true, false, false, true, false, false, false, false, false, false, false, false, false, false, false, false, false, false] rfl rfl (any_of HT_.out (by kernel_rfl)) (fun _ _ _ h => h) (Or.inl ⟨by rfl, ?_⟩) ?_ ?_
  rotate_left
  · intro w'
    go_simp
    with_reducible rfl
  rotate_left
  · simp only [Act.put, List.setIfInBounds_toArray, List.set_cons_zero, List.set_cons_succ, i64_w, i32_w]
    rfl
  refine pure_ (i := 7) (N := some 14) (v := ?_) (a' := ?_) #[false, true, false, true, false, false, true, true, false, false, false, false, false, false, false, false, false, false, false, false, false] rfl rfl (any_of HT_.out (by kernel_rfl)) (fun _ _ _ h => h) (Or.inl ⟨by rfl, ?_⟩) ?_ ?_
  rotate_left
  · intro w'
    go_simp
    with_reducible rfl
  rotate_left
  · simp only [Act.put, List.setIfInBounds_toArray, List.set_cons_zero, List.set_cons_succ, i64_w, i32_w]
    rfl
  refine pure_ (i := 12) (N := some 19) (v := ?_) (a' := ?_) #[false, true, false, true, false, false, true, true, false, false, false, false, true, false, false, false, false, false, false, false, false] rfl rfl (any_of HT_.out (by kernel_rfl)) (fun _ _ _ h => h) (Or.inl ⟨by rfl, ?_⟩) ?_ ?_
  rotate_left
  · intro w'
    go_simp
    with_reducible rfl
  rotate_left
  · simp only [Act.put, List.setIfInBounds_toArray, List.set_cons_zero, List.set_cons_succ, i64_w, i32_w]
    rfl
  refine pure_ (i := 14) (N := some 21) (v := ?_) (a' := ?_) #[false, true, false, true, false, false, true, true, false, false, false, false, true, false, true, false, false, false, false, false, false] rfl rfl (any_of HT_.out (by kernel_rfl)) (fun _ _ _ h => h) (Or.inl ⟨by rfl, ?_⟩) ?_ ?_
  rotate_left
  · intro w'
    go_simp
    with_reducible rfl
  rotate_left
  · simp only [Act.put, List.setIfInBounds_toArray, List.set_cons_zero, List.set_cons_succ, i64_w, i32_w]
    rfl
  refine pure_ (i := 15) (N := some 22) (v := ?_) (a' := ?_) #[false, true, false, true, false, false, true, true, false, false, false, false, true, false, true, true, false, false, false, false, false] rfl rfl (any_of HT_.out (by kernel_rfl)) (fun _ _ _ h => h) (Or.inl ⟨by rfl, ?_⟩) ?_ ?_
  rotate_left
  · intro w'
    go_simp
    with_reducible rfl
  rotate_left
  · simp only [Act.put, List.setIfInBounds_toArray, List.set_cons_zero, List.set_cons_succ, i64_w, i32_w]
    rfl
  refine take_ (i := 0) (N := some 7) (v := ?_) (a' := ?_) #[true, true, false, true, false, false, true, true, false, false, false, false, true, false, true, true, false, false, false, false, false] rfl rfl (take_ofW HT_.out HW_.out (by kernel_rfl)) (fun _ _ _ h => h) (Or.inl ⟨by rfl, ?_⟩) hHeld ?_ ?_
  rotate_left
  · rintro w' ⟨s0, s1, s2, s3, s4, s5, s6, s7, s8, s9, s10, s11, s12, s13⟩
    go_simp
    with_reducible rfl
  rotate_left
  · simp only [Act.put, List.setIfInBounds_toArray, List.set_cons_zero, List.set_cons_succ, i64_w, i32_w]
    rfl
  refine take_ (i := 2) (N := some 9) (v := ?_) (a' := ?_) #[true, true, true, true, false, false, true, true, false, false, false, false, true, false, true, true, false, false, false, false, false] rfl rfl (take_ofW HT_.out HW_.out (by kernel_rfl)) (fun _ _ _ h => h) (Or.inl ⟨by rfl, ?_⟩) hHeld ?_ ?_
  rotate_left
  · rintro w' ⟨s0, s1, s2, s3, s4, s5, s6, s7, s8, s9, s10, s11, s12, s13⟩
    go_simp
    with_reducible rfl
  rotate_left
  · simp only [Act.put, List.setIfInBounds_toArray, List.set_cons_zero, List.set_cons_succ, i64_w, i32_w]
    rfl
  refine take_ (i := 4) (N := some 11) (v := ?_) (a' := ?_) #[true, true, true, true, true, false, true, true, false, false, false, false, true, false, true, true, false, false, false, false, false] rfl rfl (take_ofW HT_.out HW_.out (by kernel_rfl)) (fun _ _ _ h => h) (Or.inl ⟨by rfl, ?_⟩) hHeld ?_ ?_
  rotate_left
  · rintro w' ⟨s0, s1, s2, s3, s4, s5, s6, s7, s8, s9, s10, s11, s12, s13⟩
    go_simp
    with_reducible rfl
  rotate_left
  · simp only [Act.put, List.setIfInBounds_toArray, List.set_cons_zero, List.set_cons_succ, i64_w, i32_w]
    rfl
  refine take_ (i := 8) (N := some 15) (v := ?_) (a' := ?_) #[true, true, true, true, true, false, true, true, true, false, false, false, true, false, true, true, false, false, false, false, false] rfl rfl (take_ofW HT_.out HW_.out (by kernel_rfl)) (fun _ _ _ h => h) (Or.inl ⟨by rfl, ?_⟩) hHeld ?_ ?_
  rotate_left
  · rintro w' ⟨s0, s1, s2, s3, s4, s5, s6, s7, s8, s9, s10, s11, s12, s13⟩
    go_simp
    with_reducible rfl
  rotate_left
  · simp only [Act.put, List.setIfInBounds_toArray, List.set_cons_zero, List.set_cons_succ, i64_w, i32_w]
    rfl
  refine take_ (i := 13) (N := some 20) (v := ?_) (a' := ?_) #[true, true, true, true, true, false, true, true, true, false, false, false, true, true, true, true, false, false, false, false, false] rfl rfl (take_ofW HT_.out HW_.out (by kernel_rfl)) (fun _ _ _ h => h) (Or.inl ⟨by rfl, ?_⟩) hHeld ?_ ?_
  rotate_left
  · rintro w' ⟨s0, s1, s2, s3, s4, s5, s6, s7, s8, s9, s10, s11, s12, s13⟩
    go_simp
    with_reducible rfl
  rotate_left
  · simp only [Act.put, List.setIfInBounds_toArray, List.set_cons_zero, List.set_cons_succ, i64_w, i32_w]
    rfl
  refine take_ (i := 16) (N := some 23) (v := ?_) (a' := ?_) #[true, true, true, true, true, false, true, true, true, false, false, false, true, true, true, true, true, false, false, false, false] rfl rfl (take_ofW HT_.out HW_.out (by kernel_rfl)) (fun _ _ _ h => h) (Or.inl ⟨by rfl, ?_⟩) hHeld ?_ ?_
  rotate_left
  · rintro w' ⟨s0, s1, s2, s3, s4, s5, s6, s7, s8, s9, s10, s11, s12, s13⟩
    go_simp
    with_reducible rfl
  rotate_left
  · simp only [Act.put, List.setIfInBounds_toArray, List.set_cons_zero, List.set_cons_succ, i64_w, i32_w]
    rfl
  refine join_ (σ := Value × Value) 3 #[true, true, true, true, true, true, true, true, true, true, true, true, true, true, true, true, true, true, false, false, false] (fun s_ => [(12, .int .i64 t311), (16, .int .i64 t312), (17, s_.1), (18, .int .i64 t316), (24, s_.2)]) (fun s_ w' => (w'.cell? ⟨gb309, 0, none⟩ = some (.int .i64 a1_0) ∧ w'.cell? ⟨gb309, 1, none⟩ = some (.int .i64 a1_1) ∧ w'.cell? ⟨gb308, 0, none⟩ = some (.int .i64 a0_0) ∧ w'.cell? ⟨gb308, 1, none⟩ = some (.int .i64 a0_1) ∧ w'.cell? ⟨gb308, 2, none⟩ = some (.int .i64 a0_2) ∧ w'.cell? ⟨gb308, 3, none⟩ = some (.int .i64 a0_3) ∧ w'.cell? ⟨gb308, 4, none⟩ = some (.int .i64 a0_4) ∧ w'.cell? ⟨gb308, 5, none⟩ = some (.int .i64 a0_5) ∧ w'.cell? ⟨gb308, 6, none⟩ = some (.int .i64 a0_6) ∧ w'.cell? ⟨gb308, 7, none⟩ = some (.int .i64 a0_7) ∧ w'.cell? ⟨gb308, 8, none⟩ = some (.int .i64 a0_8) ∧ w'.cell? ⟨gb308, 9, none⟩ = some (.int .i64 a0_9) ∧ w'.cell? ⟨gb308, 10, none⟩ = some (.int .i64 a0_10) ∧ w'.cell? ⟨gb308, 11, none⟩ = some (.int .i64 a0_11)) ∧ (Kd.R (Kd.int .i64) 3 w' w.heap.size (fun k_ => some k_ ≠ (s_.2 : Value).ownBlock) s_.1 y313) ∧ (Kd.R (Kd.int .i64) 3 w' w.heap.size (fun k_ => some k_ ≠ (s_.1 : Value).ownBlock) s_.2 y317) ∧ (w'.heap[gb308]? = some (.cells #[.int .i64 a0_0, .int .i64 a0_1, .int .i64 a0_2, .int .i64 a0_3, .int .i64 a0_4, .int .i64 a0_5, .int .i64 a0_6, .int .i64 a0_7, .int .i64 a0_8, .int .i64 a0_9, .int .i64 a0_10, .int .i64 a0_11] 23 (0, 0))) ∧ (w'.heap[gb309]? = some (.cells #[.int .i64 a1_0, .int .i64 a1_1] 33 (0, 0))) ∧ (w'.heap[gb310]? = some (.cells #[.int .i64 0, .int .i64 0] 33 (0, 0))) ∧ (Below w.heap.size w w')) ?_ ?_
  rotate_left
  · intro hJ5_9_10_11_17
    refine join_ (σ := Value) 4 #[true, true, true, true, true, true, true, true, true, true, true, true, true, true, true, true, true, false, false, false, false] (fun s_ => [(12, .int .i64 t311), (16, .int .i64 t312), (17, s_), (18, .int .i64 t316)]) (fun s_ w' => (w'.cell? ⟨gb309, 0, none⟩ = some (.int .i64 a1_0) ∧ w'.cell? ⟨gb309, 1, none⟩ = some (.int .i64 a1_1) ∧ w'.cell? ⟨gb308, 0, none⟩ = some (.int .i64 a0_0) ∧ w'.cell? ⟨gb308, 1, none⟩ = some (.int .i64 a0_1) ∧ w'.cell? ⟨gb308, 2, none⟩ = some (.int .i64 a0_2) ∧ w'.cell? ⟨gb308, 3, none⟩ = some (.int .i64 a0_3) ∧ w'.cell? ⟨gb308, 4, none⟩ = some (.int .i64 a0_4) ∧ w'.cell? ⟨gb308, 5, none⟩ = some (.int .i64 a0_5) ∧ w'.cell? ⟨gb308, 6, none⟩ = some (.int .i64 a0_6) ∧ w'.cell? ⟨gb308, 7, none⟩ = some (.int .i64 a0_7) ∧ w'.cell? ⟨gb308, 8, none⟩ = some (.int .i64 a0_8) ∧ w'.cell? ⟨gb308, 9, none⟩ = some (.int .i64 a0_9) ∧ w'.cell? ⟨gb308, 10, none⟩ = some (.int .i64 a0_10) ∧ w'.cell? ⟨gb308, 11, none⟩ = some (.int .i64 a0_11)) ∧ (Kd.R (Kd.int .i64) 3 w' w.heap.size (fun _ => True) s_ y313) ∧ (w'.heap[gb308]? = some (.cells #[.int .i64 a0_0, .int .i64 a0_1, .int .i64 a0_2, .int .i64 a0_3, .int .i64 a0_4, .int .i64 a0_5, .int .i64 a0_6, .int .i64 a0_7, .int .i64 a0_8, .int .i64 a0_9, .int .i64 a0_10, .int .i64 a0_11] 23 (0, 0))) ∧ (w'.heap[gb309]? = some (.cells #[.int .i64 a1_0, .int .i64 a1_1] 33 (0, 0))) ∧ (w'.heap[gb310]? = some (.cells #[.int .i64 0, .int .i64 0] 33 (0, 0))) ∧ (Below w.heap.size w w')) ?_ ?_
    rotate_left
    · intro hJ5_9_10_11
      refine join_ (σ := Value × Value) 4 #[true, true, true, true, true, true, true, true, true, true, true, false, true, true, true, true, true, true, false, false, false] (fun s_ => [(12, .int .i64 t311), (16, .int .i64 t312), (17, s_.1), (24, s_.2)]) (fun s_ w' => (w'.cell? ⟨gb309, 0, none⟩ = some (.int .i64 a1_0) ∧ w'.cell? ⟨gb309, 1, none⟩ = some (.int .i64 a1_1) ∧ w'.cell? ⟨gb308, 0, none⟩ = some (.int .i64 a0_0) ∧ w'.cell? ⟨gb308, 1, none⟩ = some (.int .i64 a0_1) ∧ w'.cell? ⟨gb308, 2, none⟩ = some (.int .i64 a0_2) ∧ w'.cell? ⟨gb308, 3, none⟩ = some (.int .i64 a0_3) ∧ w'.cell? ⟨gb308, 4, none⟩ = some (.int .i64 a0_4) ∧ w'.cell? ⟨gb308, 5, none⟩ = some (.int .i64 a0_5) ∧ w'.cell? ⟨gb308, 6, none⟩ = some (.int .i64 a0_6) ∧ w'.cell? ⟨gb308, 7, none⟩ = some (.int .i64 a0_7) ∧ w'.cell? ⟨gb308, 8, none⟩ = some (.int .i64 a0_8) ∧ w'.cell? ⟨gb308, 9, none⟩ = some (.int .i64 a0_9) ∧ w'.cell? ⟨gb308, 10, none⟩ = some (.int .i64 a0_10) ∧ w'.cell? ⟨gb308, 11, none⟩ = some (.int .i64 a0_11)) ∧ (Kd.R (Kd.int .i64) 3 w' w.heap.size (fun k_ => some k_ ≠ (s_.2 : Value).ownBlock) s_.1 y313) ∧ (Kd.R (Kd.int .i64) 3 w' w.heap.size (fun k_ => some k_ ≠ (s_.1 : Value).ownBlock) s_.2 y317) ∧ (w'.heap[gb308]? = some (.cells #[.int .i64 a0_0, .int .i64 a0_1, .int .i64 a0_2, .int .i64 a0_3, .int .i64 a0_4, .int .i64 a0_5, .int .i64 a0_6, .int .i64 a0_7, .int .i64 a0_8, .int .i64 a0_9, .int .i64 a0_10, .int .i64 a0_11] 23 (0, 0))) ∧ (w'.heap[gb309]? = some (.cells #[.int .i64 a1_0, .int .i64 a1_1] 33 (0, 0))) ∧ (w'.heap[gb310]? = some (.cells #[.int .i64 0, .int .i64 0] 33 (0, 0))) ∧ (Below w.heap.size w w')) ?_ ?_
      rotate_left
      · intro hJ5_9_10_17
        refine join_ (σ := Value) 5 #[true, true, true, true, true, true, true, true, true, true, true, false, true, true, true, true, true, false, false, false, false] (fun s_ => [(12, .int .i64 t311), (16, .int .i64 t312), (17, s_)]) (fun s_ w' => (w'.cell? ⟨gb309, 0, none⟩ = some (.int .i64 a1_0) ∧ w'.cell? ⟨gb309, 1, none⟩ = some (.int .i64 a1_1) ∧ w'.cell? ⟨gb308, 0, none⟩ = some (.int .i64 a0_0) ∧ w'.cell? ⟨gb308, 1, none⟩ = some (.int .i64 a0_1) ∧ w'.cell? ⟨gb308, 2, none⟩ = some (.int .i64 a0_2) ∧ w'.cell? ⟨gb308, 3, none⟩ = some (.int .i64 a0_3) ∧ w'.cell? ⟨gb308, 4, none⟩ = some (.int .i64 a0_4) ∧ w'.cell? ⟨gb308, 5, none⟩ = some (.int .i64 a0_5) ∧ w'.cell? ⟨gb308, 6, none⟩ = some (.int .i64 a0_6) ∧ w'.cell? ⟨gb308, 7, none⟩ = some (.int .i64 a0_7) ∧ w'.cell? ⟨gb308, 8, none⟩ = some (.int .i64 a0_8) ∧ w'.cell? ⟨gb308, 9, none⟩ = some (.int .i64 a0_9) ∧ w'.cell? ⟨gb308, 10, none⟩ = some (.int .i64 a0_10) ∧ w'.cell? ⟨gb308, 11, none⟩ = some (.int .i64 a0_11)) ∧ (Kd.R (Kd.int .i64) 3 w' w.heap.size (fun _ => True) s_ y313) ∧ (w'.heap[gb308]? = some (.cells #[.int .i64 a0_0, .int .i64 a0_1, .int .i64 a0_2, .int .i64 a0_3, .int .i64 a0_4, .int .i64 a0_5, .int .i64 a0_6, .int .i64 a0_7, .int .i64 a0_8, .int .i64 a0_9, .int .i64 a0_10, .int .i64 a0_11] 23 (0, 0))) ∧ (w'.heap[gb309]? = some (.cells #[.int .i64 a1_0, .int .i64 a1_1] 33 (0, 0))) ∧ (w'.heap[gb310]? = some (.cells #[.int .i64 0, .int .i64 0] 33 (0, 0))) ∧ (Below w.heap.size w w')) ?_ ?_
        rotate_left
        · intro hJ5_9_10
          refine join_ (σ := Value) 5 #[true, true, true, true, true, true, true, true, true, true, false, false, true, true, true, true, true, true, false, false, false] (fun s_ => [(12, .int .i64 t311), (16, .int .i64 t312), (24, s_)]) (fun s_ w' => (w'.cell? ⟨gb309, 0, none⟩ = some (.int .i64 a1_0) ∧ w'.cell? ⟨gb309, 1, none⟩ = some (.int .i64 a1_1) ∧ w'.cell? ⟨gb308, 0, none⟩ = some (.int .i64 a0_0) ∧ w'.cell? ⟨gb308, 1, none⟩ = some (.int .i64 a0_1) ∧ w'.cell? ⟨gb308, 2, none⟩ = some (.int .i64 a0_2) ∧ w'.cell? ⟨gb308, 3, none⟩ = some (.int .i64 a0_3) ∧ w'.cell? ⟨gb308, 4, none⟩ = some (.int .i64 a0_4) ∧ w'.cell? ⟨gb308, 5, none⟩ = some (.int .i64 a0_5) ∧ w'.cell? ⟨gb308, 6, none⟩ = some (.int .i64 a0_6) ∧ w'.cell? ⟨gb308, 7, none⟩ = some (.int .i64 a0_7) ∧ w'.cell? ⟨gb308, 8, none⟩ = some (.int .i64 a0_8) ∧ w'.cell? ⟨gb308, 9, none⟩ = some (.int .i64 a0_9) ∧ w'.cell? ⟨gb308, 10, none⟩ = some (.int .i64 a0_10) ∧ w'.cell? ⟨gb308, 11, none⟩ = some (.int .i64 a0_11)) ∧ (Kd.R (Kd.int .i64) 3 w' w.heap.size (fun _ => True) s_ y317) ∧ (w'.heap[gb308]? = some (.cells #[.int .i64 a0_0, .int .i64 a0_1, .int .i64 a0_2, .int .i64 a0_3, .int .i64 a0_4, .int .i64 a0_5, .int .i64 a0_6, .int .i64 a0_7, .int .i64 a0_8, .int .i64 a0_9, .int .i64 a0_10, .int .i64 a0_11] 23 (0, 0))) ∧ (w'.heap[gb309]? = some (.cells #[.int .i64 a1_0, .int .i64 a1_1] 33 (0, 0))) ∧ (w'.heap[gb310]? = some (.cells #[.int .i64 0, .int .i64 0] 33 (0, 0))) ∧ (Below w.heap.size w w')) ?_ ?_
          rotate_left
          · intro hJ5_9_17
            refine join_ (σ := Unit) 6 #[true, true, true, true, true, true, true, true, true, true, false, false, true, true, true, true, true, false, false, false, false] (fun s_ => [(12, .int .i64 t311), (16, .int .i64 t312)]) (fun s_ w' => (w'.cell? ⟨gb309, 0, none⟩ = some (.int .i64 a1_0) ∧ w'.cell? ⟨gb309, 1, none⟩ = some (.int .i64 a1_1) ∧ w'.cell? ⟨gb308, 0, none⟩ = some (.int .i64 a0_0) ∧ w'.cell? ⟨gb308, 1, none⟩ = some (.int .i64 a0_1) ∧ w'.cell? ⟨gb308, 2, none⟩ = some (.int .i64 a0_2) ∧ w'.cell? ⟨gb308, 3, none⟩ = some (.int .i64 a0_3) ∧ w'.cell? ⟨gb308, 4, none⟩ = some (.int .i64 a0_4) ∧ w'.cell? ⟨gb308, 5, none⟩ = some (.int .i64 a0_5) ∧ w'.cell? ⟨gb308, 6, none⟩ = some (.int .i64 a0_6) ∧ w'.cell? ⟨gb308, 7, none⟩ = some (.int .i64 a0_7) ∧ w'.cell? ⟨gb308, 8, none⟩ = some (.int .i64 a0_8) ∧ w'.cell? ⟨gb308, 9, none⟩ = some (.int .i64 a0_9) ∧ w'.cell? ⟨gb308, 10, none⟩ = some (.int .i64 a0_10) ∧ w'.cell? ⟨gb308, 11, none⟩ = some (.int .i64 a0_11)) ∧ (w'.heap[gb308]? = some (.cells #[.int .i64 a0_0, .int .i64 a0_1, .int .i64 a0_2, .int .i64 a0_3, .int .i64 a0_4, .int .i64 a0_5, .int .i64 a0_6, .int .i64 a0_7, .int .i64 a0_8, .int .i64 a0_9, .int .i64 a0_10, .int .i64 a0_11] 23 (0, 0))) ∧ (w'.heap[gb309]? = some (.cells #[.int .i64 a1_0, .int .i64 a1_1] 33 (0, 0))) ∧ (w'.heap[gb310]? = some (.cells #[.int .i64 0, .int .i64 0] 33 (0, 0))) ∧ (Below w.heap.size w w')) ?_ ?_
            rotate_left
            · intro hJ5_9
              refine join_ (σ := Value) 6 #[true, true, true, true, true, true, true, true, true, false, false, false, true, true, true, true, true, true, false, false, false] (fun s_ => [(12, .int .i64 t311), (24, s_)]) (fun s_ w' => (w'.cell? ⟨gb309, 0, none⟩ = some (.int .i64 a1_0) ∧ w'.cell? ⟨gb309, 1, none⟩ = some (.int .i64 a1_1) ∧ w'.cell? ⟨gb308, 0, none⟩ = some (.int .i64 a0_0) ∧ w'.cell? ⟨gb308, 1, none⟩ = some (.int .i64 a0_1) ∧ w'.cell? ⟨gb308, 2, none⟩ = some (.int .i64 a0_2) ∧ w'.cell? ⟨gb308, 3, none⟩ = some (.int .i64 a0_3) ∧ w'.cell? ⟨gb308, 4, none⟩ = some (.int .i64 a0_4) ∧ w'.cell? ⟨gb308, 5, none⟩ = some (.int .i64 a0_5) ∧ w'.cell? ⟨gb308, 6, none⟩ = some (.int .i64 a0_6) ∧ w'.cell? ⟨gb308, 7, none⟩ = some (.int .i64 a0_7) ∧ w'.cell? ⟨gb308, 8, none⟩ = some (.int .i64 a0_8) ∧ w'.cell? ⟨gb308, 9, none⟩ = some (.int .i64 a0_9) ∧ w'.cell? ⟨gb308, 10, none⟩ = some (.int .i64 a0_10) ∧ w'.cell? ⟨gb308, 11, none⟩ = some (.int .i64 a0_11)) ∧ (Kd.R (Kd.int .i64) 3 w' w.heap.size (fun _ => True) s_ y317) ∧ (w'.heap[gb308]? = some (.cells #[.int .i64 a0_0, .int .i64 a0_1, .int .i64 a0_2, .int .i64 a0_3, .int .i64 a0_4, .int .i64 a0_5, .int .i64 a0_6, .int .i64 a0_7, .int .i64 a0_8, .int .i64 a0_9, .int .i64 a0_10, .int .i64 a0_11] 23 (0, 0))) ∧ (w'.heap[gb309]? = some (.cells #[.int .i64 a1_0, .int .i64 a1_1] 33 (0, 0))) ∧ (w'.heap[gb310]? = some (.cells #[.int .i64 0, .int .i64 0] 33 (0, 0))) ∧ (Below w.heap.size w w')) ?_ ?_
              rotate_left
              · intro hJ5_17
                refine join_ (σ := Unit) 7 #[true, true, true, true, true, true, true, true, true, false, false, false, true, true, true, true, true, false, false, false, false] (fun s_ => [(12, .int .i64 t311)]) (fun s_ w' => (w'.cell? ⟨gb309, 0, none⟩ = some (.int .i64 a1_0) ∧ w'.cell? ⟨gb309, 1, none⟩ = some (.int .i64 a1_1) ∧ w'.cell? ⟨gb308, 0, none⟩ = some (.int .i64 a0_0) ∧ w'.cell? ⟨gb308, 1, none⟩ = some (.int .i64 a0_1) ∧ w'.cell? ⟨gb308, 2, none⟩ = some (.int .i64 a0_2) ∧ w'.cell? ⟨gb308, 3, none⟩ = some (.int .i64 a0_3) ∧ w'.cell? ⟨gb308, 4, none⟩ = some (.int .i64 a0_4) ∧ w'.cell? ⟨gb308, 5, none⟩ = some (.int .i64 a0_5) ∧ w'.cell? ⟨gb308, 6, none⟩ = some (.int .i64 a0_6) ∧ w'.cell? ⟨gb308, 7, none⟩ = some (.int .i64 a0_7) ∧ w'.cell? ⟨gb308, 8, none⟩ = some (.int .i64 a0_8) ∧ w'.cell? ⟨gb308, 9, none⟩ = some (.int .i64 a0_9) ∧ w'.cell? ⟨gb308, 10, none⟩ = some (.int .i64 a0_10) ∧ w'.cell? ⟨gb308, 11, none⟩ = some (.int .i64 a0_11)) ∧ (w'.heap[gb308]? = some (.cells #[.int .i64 a0_0, .int .i64 a0_1, .int .i64 a0_2, .int .i64 a0_3, .int .i64 a0_4, .int .i64 a0_5, .int .i64 a0_6, .int .i64 a0_7, .int .i64 a0_8, .int .i64 a0_9, .int .i64 a0_10, .int .i64 a0_11] 23 (0, 0))) ∧ (w'.heap[gb309]? = some (.cells #[.int .i64 a1_0, .int .i64 a1_1] 33 (0, 0))) ∧ (w'.heap[gb310]? = some (.cells #[.int .i64 0, .int .i64 0] 33 (0, 0))) ∧ (Below w.heap.size w w')) ?_ ?_
                rotate_left
                · intro hJ5
                  refine join_ (σ := Value) 7 #[true, true, true, true, true, false, true, true, true, false, false, false, true, true, true, true, true, true, false, false, false] (fun s_ => [(24, s_)]) (fun s_ w' => (w'.cell? ⟨gb309, 0, none⟩ = some (.int .i64 a1_0) ∧ w'.cell? ⟨gb309, 1, none⟩ = some (.int .i64 a1_1) ∧ w'.cell? ⟨gb308, 0, none⟩ = some (.int .i64 a0_0) ∧ w'.cell? ⟨gb308, 1, none⟩ = some (.int .i64 a0_1) ∧ w'.cell? ⟨gb308, 2, none⟩ = some (.int .i64 a0_2) ∧ w'.cell? ⟨gb308, 3, none⟩ = some (.int .i64 a0_3) ∧ w'.cell? ⟨gb308, 4, none⟩ = some (.int .i64 a0_4) ∧ w'.cell? ⟨gb308, 5, none⟩ = some (.int .i64 a0_5) ∧ w'.cell? ⟨gb308, 6, none⟩ = some (.int .i64 a0_6) ∧ w'.cell? ⟨gb308, 7, none⟩ = some (.int .i64 a0_7) ∧ w'.cell? ⟨gb308, 8, none⟩ = some (.int .i64 a0_8) ∧ w'.cell? ⟨gb308, 9, none⟩ = some (.int .i64 a0_9) ∧ w'.cell? ⟨gb308, 10, none⟩ = some (.int .i64 a0_10) ∧ w'.cell? ⟨gb308, 11, none⟩ = some (.int .i64 a0_11)) ∧ (Kd.R (Kd.int .i64) 3 w' w.heap.size (fun _ => True) s_ y317) ∧ (w'.heap[gb308]? = some (.cells #[.int .i64 a0_0, .int .i64 a0_1, .int .i64 a0_2, .int .i64 a0_3, .int .i64 a0_4, .int .i64 a0_5, .int .i64 a0_6, .int .i64 a0_7, .int .i64 a0_8, .int .i64 a0_9, .int .i64 a0_10, .int .i64 a0_11] 23 (0, 0))) ∧ (w'.heap[gb309]? = some (.cells #[.int .i64 a1_0, .int .i64 a1_1] 33 (0, 0))) ∧ (w'.heap[gb310]? = some (.cells #[.int .i64 0, .int .i64 0] 33 (0, 0))) ∧ (Below w.heap.size w w')) ?_ ?_
                  rotate_left
                  · intro hJ17
                    refine two_ (i := 5) (j := 17) (Ni := some 12) (Nj := some 24) #[true, true, true, true, true, true, true, true, true, false, false, false, true, true, true, true, true, false, false, false, false] #[true, true, true, true, true, false, true, true, true, false, false, false, true, true, true, true, true, true, false, false, false] rfl rfl rfl rfl (two_of HT_.out (by kernel_rfl)) (by decide) (by decide) (fun K hK => ?_) (fun K hK => ?_)
                    · skip
                      refine goes_ Try.func40 (by kernel_rfl) rfl #[.int .i64 a0_5, .int .i64 a0_6] (by rfl) rfl rfl (by (try simp only [List.map_toArray, List.map_cons, List.map_nil]); first | done | rfl | (simp only [List.length_drop, List.length_take]; rfl)) ?_
                      with_reducible refine (sat_Sub.calls k a0_5 a0_6 t311 _ A4.out).mono ?_
                      rintro e w' ⟨rfl, ⟨nd, rfl⟩⟩
                      refine ⟨_, rfl, ?_⟩
                      refine hK.out _ _ ⟨(blk_cell BK309.out 0).trans rfl, (blk_cell BK309.out 1).trans rfl, (blk_cell BK308.out 0).trans rfl, (blk_cell BK308.out 1).trans rfl, (blk_cell BK308.out 2).trans rfl, (blk_cell BK308.out 3).trans rfl, (blk_cell BK308.out 4).trans rfl, (blk_cell BK308.out 5).trans rfl, (blk_cell BK308.out 6).trans rfl, (blk_cell BK308.out 7).trans rfl, (blk_cell BK308.out 8).trans rfl, (blk_cell BK308.out 9).trans rfl, (blk_cell BK308.out 10).trans rfl, (blk_cell BK308.out 11).trans rfl⟩ (fun hHeld => ?_)
                      clear hK K
                      refine norm_ (a' := ?_) ?_ ?_
                      rotate_left
                      · show Act.put _ (some 12) _ = _
                        simp only [Act.put, List.setIfInBounds_toArray, List.set_cons_zero, List.set_cons_succ, i64_w, i32_w]
                        rfl
                      exact norm_ (by first | (simp only [putAll, Act.put, List.setIfInBounds_toArray, List.set_cons_zero, List.set_cons_succ]; done) | (simp only [putAll, Act.put, List.setIfInBounds_toArray, List.set_cons_zero, List.set_cons_succ]; rfl)) (hJ5 () _ ⟨hHeld, (by (with_reducible repeat (first | refine blk_drewN ?_ _ | refine blk_drew ?_ | refine blk_alloc ?_ _)); exact BK308.out), (by (with_reducible repeat (first | refine blk_drewN ?_ _ | refine blk_drew ?_ | refine blk_alloc ?_ _)); exact BK309.out), (by (with_reducible repeat (first | refine blk_drewN ?_ _ | refine blk_drew ?_ | refine blk_alloc ?_ _)); exact BK310.out), (by repeat (first | (with_reducible first | exact HB.out | apply below_alloc | apply pw_below_drewN | apply below_drew1 | refine below_set ?_ GE308.out | refine below_set ?_ GE309.out | refine below_set ?_ GE310.out) | exact HB.out))⟩)
                    · skip
                      refine Kd.R_lit_step (Kd.int .i64) _ 3 ?hg (N := 24) ?hd (xs := ([a0_5, a2, a0_4] : List Int)) (inner := [.int .i64 a0_5, .int .i64 a2, .int .i64 a0_4]) (ok := fun _ => True) (okp := fun _ => True) ?hr ?hp (fun _ hk => hk) trivial (Below.refl _ _) (Nat.le_refl _) (by simp) ?_; (case hd => rfl); (case hg => rfl); (case hr => first | (go_simp; done) | (go_simp; rfl)); (case hp => exact (Reps.one (show Kd.M (Kd.int .i64) _ _ _ a0_5 [.int .i64 a0_5] from rfl) (Reps.one (show Kd.M (Kd.int .i64) _ _ _ a2 [.int .i64 a2] from rfl) (Reps.one (show Kd.M (Kd.int .i64) _ _ _ a0_4 [.int .i64 a0_4] from rfl) (Reps.none _ _)))))
                      intro v318 w13 ho14 hb hg_ hnew_
                      clear hg_ hnew_
                      (first | rw [← Ny317.out] at ho14 | (simp only [Int.reduceToNat] at ho14; rw [← Ny317.out] at ho14))
                      have n0_ := Aside0.mk (Kd.R_lower ho14 (below_size (by repeat (first | (with_reducible first | exact HB.out | apply below_alloc | apply pw_below_drewN | apply below_drew1 | refine below_set ?_ GE308.out | refine below_set ?_ GE309.out | refine below_set ?_ GE310.out) | exact HB.out))))
                      have n1_ := Aside0.mk (blk_below (g := gb308) (o := .cells #[.int .i64 a0_0, .int .i64 a0_1, .int .i64 a0_2, .int .i64 a0_3, .int .i64 a0_4, .int .i64 a0_5, .int .i64 a0_6, .int .i64 a0_7, .int .i64 a0_8, .int .i64 a0_9, .int .i64 a0_10, .int .i64 a0_11] 23 (0, 0)) (by (with_reducible repeat (first | refine blk_drewN ?_ _ | refine blk_drew ?_ | refine blk_alloc ?_ _)); exact BK308.out) hb)
                      have n2_ := Aside0.mk (blk_below (g := gb309) (o := .cells #[.int .i64 a1_0, .int .i64 a1_1] 33 (0, 0)) (by (with_reducible repeat (first | refine blk_drewN ?_ _ | refine blk_drew ?_ | refine blk_alloc ?_ _)); exact BK309.out) hb)
                      have n3_ := Aside0.mk (blk_below (g := gb310) (o := .cells #[.int .i64 0, .int .i64 0] 33 (0, 0)) (by (with_reducible repeat (first | refine blk_drewN ?_ _ | refine blk_drew ?_ | refine blk_alloc ?_ _)); exact BK310.out) hb)
                      have n4_ := Aside0.mk (below_step (by repeat (first | (with_reducible first | exact HB.out | apply below_alloc | apply pw_below_drewN | apply below_drew1 | refine below_set ?_ GE308.out | refine below_set ?_ GE309.out | refine below_set ?_ GE310.out) | exact HB.out)) hb)
                      clear BK308
                      clear BK309
                      clear BK310
                      clear HB
                      have HO319 := n0_
                      have BK308 := n1_
                      have BK309 := n2_
                      have BK310 := n3_
                      have HB := n4_
                      clear n0_ n1_ n2_ n3_ n4_
                      clear hb ho14
                      refine hK.out _ _ ⟨(blk_cell BK309.out 0).trans rfl, (blk_cell BK309.out 1).trans rfl, (blk_cell BK308.out 0).trans rfl, (blk_cell BK308.out 1).trans rfl, (blk_cell BK308.out 2).trans rfl, (blk_cell BK308.out 3).trans rfl, (blk_cell BK308.out 4).trans rfl, (blk_cell BK308.out 5).trans rfl, (blk_cell BK308.out 6).trans rfl, (blk_cell BK308.out 7).trans rfl, (blk_cell BK308.out 8).trans rfl, (blk_cell BK308.out 9).trans rfl, (blk_cell BK308.out 10).trans rfl, (blk_cell BK308.out 11).trans rfl⟩ (fun hHeld => ?_)
                      clear hK K
                      refine norm_ (a' := ?_) ?_ ?_
                      rotate_left
                      · show Act.put _ (some 24) _ = _
                        simp only [Act.put, List.setIfInBounds_toArray, List.set_cons_zero, List.set_cons_succ, i64_w, i32_w]
                        rfl
                      exact norm_ (by first | (simp only [putAll, Act.put, List.setIfInBounds_toArray, List.set_cons_zero, List.set_cons_succ]; done) | (simp only [putAll, Act.put, List.setIfInBounds_toArray, List.set_cons_zero, List.set_cons_succ]; rfl)) (hJ17 (v318) _ ⟨hHeld, (by (with_reducible repeat (first | apply Kd.R_alloc | apply Kd.R_drewN | apply Kd.R_drew)); exact HO319.out), (by (with_reducible repeat (first | refine blk_drewN ?_ _ | refine blk_drew ?_ | refine blk_alloc ?_ _)); exact BK308.out), (by (with_reducible repeat (first | refine blk_drewN ?_ _ | refine blk_drew ?_ | refine blk_alloc ?_ _)); exact BK309.out), (by (with_reducible repeat (first | refine blk_drewN ?_ _ | refine blk_drew ?_ | refine blk_alloc ?_ _)); exact BK310.out), (by repeat (first | (with_reducible first | exact HB.out | apply below_alloc | apply pw_below_drewN | apply below_drew1 | refine below_set ?_ GE308.out | refine below_set ?_ GE309.out | refine below_set ?_ GE310.out) | exact HB.out))⟩)
                  · skip
                    rintro v318 w15 ⟨hS_, h0_, h1_, h2_, h3_, h4_⟩
                    have n0_ : Aside0 (Kd.R (Kd.int .i64) 3 w15 w.heap.size (fun _ => True) v318 y317) := ⟨h0_⟩
                    have n1_ : Aside0 (w15.heap[gb308]? = some (.cells #[.int .i64 a0_0, .int .i64 a0_1, .int .i64 a0_2, .int .i64 a0_3, .int .i64 a0_4, .int .i64 a0_5, .int .i64 a0_6, .int .i64 a0_7, .int .i64 a0_8, .int .i64 a0_9, .int .i64 a0_10, .int .i64 a0_11] 23 (0, 0))) := ⟨h1_⟩
                    have n2_ : Aside0 (w15.heap[gb309]? = some (.cells #[.int .i64 a1_0, .int .i64 a1_1] 33 (0, 0))) := ⟨h2_⟩
                    have n3_ : Aside0 (w15.heap[gb310]? = some (.cells #[.int .i64 0, .int .i64 0] 33 (0, 0))) := ⟨h3_⟩
                    have n4_ : Aside0 (Below w.heap.size w w15) := ⟨h4_⟩
                    clear BK308
                    clear BK309
                    clear BK310
                    clear HB
                    clear h0_ h1_ h2_ h3_ h4_
                    have HO319 := n0_
                    have BK308 := n1_
                    have BK309 := n2_
                    have BK310 := n3_
                    have HB := n4_
                    clear n0_ n1_ n2_ n3_ n4_
                    have hHeld : w15.cell? ⟨gb309, 0, none⟩ = some (.int .i64 a1_0) ∧ w15.cell? ⟨gb309, 1, none⟩ = some (.int .i64 a1_1) ∧ w15.cell? ⟨gb308, 0, none⟩ = some (.int .i64 a0_0) ∧ w15.cell? ⟨gb308, 1, none⟩ = some (.int .i64 a0_1) ∧ w15.cell? ⟨gb308, 2, none⟩ = some (.int .i64 a0_2) ∧ w15.cell? ⟨gb308, 3, none⟩ = some (.int .i64 a0_3) ∧ w15.cell? ⟨gb308, 4, none⟩ = some (.int .i64 a0_4) ∧ w15.cell? ⟨gb308, 5, none⟩ = some (.int .i64 a0_5) ∧ w15.cell? ⟨gb308, 6, none⟩ = some (.int .i64 a0_6) ∧ w15.cell? ⟨gb308, 7, none⟩ = some (.int .i64 a0_7) ∧ w15.cell? ⟨gb308, 8, none⟩ = some (.int .i64 a0_8) ∧ w15.cell? ⟨gb308, 9, none⟩ = some (.int .i64 a0_9) ∧ w15.cell? ⟨gb308, 10, none⟩ = some (.int .i64 a0_10) ∧ w15.cell? ⟨gb308, 11, none⟩ = some (.int .i64 a0_11) := hS_
                    refine norm_ (a' := ?_) ?_ ?_
                    rotate_left
                    · simp only [putAll, Act.put, List.setIfInBounds_toArray, List.set_cons_zero, List.set_cons_succ]
                      rfl
                    refine one_ (i := 5) (N := some 12) #[true, true, true, true, true, true, true, true, true, false, false, false, true, true, true, true, true, true, false, false, false] rfl rfl (one_of HT_.out (by kernel_rfl)) (by decide) (fun K hK => ?_)
                    refine goes_ Try.func40 (by kernel_rfl) rfl #[.int .i64 a0_5, .int .i64 a0_6] (by rfl) rfl rfl (by (try simp only [List.map_toArray, List.map_cons, List.map_nil]); first | done | rfl | (simp only [List.length_drop, List.length_take]; rfl)) ?_
                    with_reducible refine (sat_Sub.calls k a0_5 a0_6 t311 _ A4.out).mono ?_
                    rintro e w' ⟨rfl, ⟨nd, rfl⟩⟩
                    refine ⟨_, rfl, ?_⟩
                    refine hK.out _ _ ⟨(blk_cell BK309.out 0).trans rfl, (blk_cell BK309.out 1).trans rfl, (blk_cell BK308.out 0).trans rfl, (blk_cell BK308.out 1).trans rfl, (blk_cell BK308.out 2).trans rfl, (blk_cell BK308.out 3).trans rfl, (blk_cell BK308.out 4).trans rfl, (blk_cell BK308.out 5).trans rfl, (blk_cell BK308.out 6).trans rfl, (blk_cell BK308.out 7).trans rfl, (blk_cell BK308.out 8).trans rfl, (blk_cell BK308.out 9).trans rfl, (blk_cell BK308.out 10).trans rfl, (blk_cell BK308.out 11).trans rfl⟩ (fun hHeld => ?_)
                    clear hK K
                    refine norm_ (a' := ?_) ?_ ?_
                    rotate_left
                    · show Act.put _ (some 12) _ = _
                      simp only [Act.put, List.setIfInBounds_toArray, List.set_cons_zero, List.set_cons_succ, i64_w, i32_w]
                      rfl
                    exact norm_ (by first | (simp only [putAll, Act.put, List.setIfInBounds_toArray, List.set_cons_zero, List.set_cons_succ]; done) | (simp only [putAll, Act.put, List.setIfInBounds_toArray, List.set_cons_zero, List.set_cons_succ]; rfl)) (hJ5_17 (v318) _ ⟨hHeld, (by (with_reducible repeat (first | apply Kd.R_alloc | apply Kd.R_drewN | apply Kd.R_drew)); exact HO319.out), (by (with_reducible repeat (first | refine blk_drewN ?_ _ | refine blk_drew ?_ | refine blk_alloc ?_ _)); exact BK308.out), (by (with_reducible repeat (first | refine blk_drewN ?_ _ | refine blk_drew ?_ | refine blk_alloc ?_ _)); exact BK309.out), (by (with_reducible repeat (first | refine blk_drewN ?_ _ | refine blk_drew ?_ | refine blk_alloc ?_ _)); exact BK310.out), (by repeat (first | (with_reducible first | exact HB.out | apply below_alloc | apply pw_below_drewN | apply below_drew1 | refine below_set ?_ GE308.out | refine below_set ?_ GE309.out | refine below_set ?_ GE310.out) | exact HB.out))⟩)
                · skip
                  rintro _ w13 ⟨hS_, h0_, h1_, h2_, h3_⟩
                  have n0_ : Aside0 (w13.heap[gb308]? = some (.cells #[.int .i64 a0_0, .int .i64 a0_1, .int .i64 a0_2, .int .i64 a0_3, .int .i64 a0_4, .int .i64 a0_5, .int .i64 a0_6, .int .i64 a0_7, .int .i64 a0_8, .int .i64 a0_9, .int .i64 a0_10, .int .i64 a0_11] 23 (0, 0))) := ⟨h0_⟩
                  have n1_ : Aside0 (w13.heap[gb309]? = some (.cells #[.int .i64 a1_0, .int .i64 a1_1] 33 (0, 0))) := ⟨h1_⟩
                  have n2_ : Aside0 (w13.heap[gb310]? = some (.cells #[.int .i64 0, .int .i64 0] 33 (0, 0))) := ⟨h2_⟩
                  have n3_ : Aside0 (Below w.heap.size w w13) := ⟨h3_⟩
                  clear BK308
                  clear BK309
                  clear BK310
                  clear HB
                  clear h0_ h1_ h2_ h3_
                  have BK308 := n0_
                  have BK309 := n1_
                  have BK310 := n2_
                  have HB := n3_
                  clear n0_ n1_ n2_ n3_
                  have hHeld : w13.cell? ⟨gb309, 0, none⟩ = some (.int .i64 a1_0) ∧ w13.cell? ⟨gb309, 1, none⟩ = some (.int .i64 a1_1) ∧ w13.cell? ⟨gb308, 0, none⟩ = some (.int .i64 a0_0) ∧ w13.cell? ⟨gb308, 1, none⟩ = some (.int .i64 a0_1) ∧ w13.cell? ⟨gb308, 2, none⟩ = some (.int .i64 a0_2) ∧ w13.cell? ⟨gb308, 3, none⟩ = some (.int .i64 a0_3) ∧ w13.cell? ⟨gb308, 4, none⟩ = some (.int .i64 a0_4) ∧ w13.cell? ⟨gb308, 5, none⟩ = some (.int .i64 a0_5) ∧ w13.cell? ⟨gb308, 6, none⟩ = some (.int .i64 a0_6) ∧ w13.cell? ⟨gb308, 7, none⟩ = some (.int .i64 a0_7) ∧ w13.cell? ⟨gb308, 8, none⟩ = some (.int .i64 a0_8) ∧ w13.cell? ⟨gb308, 9, none⟩ = some (.int .i64 a0_9) ∧ w13.cell? ⟨gb308, 10, none⟩ = some (.int .i64 a0_10) ∧ w13.cell? ⟨gb308, 11, none⟩ = some (.int .i64 a0_11) := hS_
                  refine norm_ (a' := ?_) ?_ ?_
                  rotate_left
                  · simp only [putAll, Act.put, List.setIfInBounds_toArray, List.set_cons_zero, List.set_cons_succ]
                    rfl
                  refine two_ (i := 9) (j := 17) (Ni := some 16) (Nj := some 24) #[true, true, true, true, true, true, true, true, true, true, false, false, true, true, true, true, true, false, false, false, false] #[true, true, true, true, true, true, true, true, true, false, false, false, true, true, true, true, true, true, false, false, false] rfl rfl rfl rfl (two_of HT_.out (by kernel_rfl)) (by decide) (by decide) (fun K hK => ?_) (fun K hK => ?_)
                  · skip
                    refine goes_ Try.func53 (by kernel_rfl) rfl #[.int .i64 a0_4] (by rfl) rfl rfl (by (try simp only [List.map_toArray, List.map_cons, List.map_nil]); first | done | rfl | (simp only [List.length_drop, List.length_take]; rfl)) ?_
                    with_reducible refine (sat_Neg.calls k a0_4 t312 _ A5.out).mono ?_
                    rintro e w' ⟨rfl, ⟨nd, rfl⟩⟩
                    refine ⟨_, rfl, ?_⟩
                    refine hK.out _ _ ⟨(blk_cell BK309.out 0).trans rfl, (blk_cell BK309.out 1).trans rfl, (blk_cell BK308.out 0).trans rfl, (blk_cell BK308.out 1).trans rfl, (blk_cell BK308.out 2).trans rfl, (blk_cell BK308.out 3).trans rfl, (blk_cell BK308.out 4).trans rfl, (blk_cell BK308.out 5).trans rfl, (blk_cell BK308.out 6).trans rfl, (blk_cell BK308.out 7).trans rfl, (blk_cell BK308.out 8).trans rfl, (blk_cell BK308.out 9).trans rfl, (blk_cell BK308.out 10).trans rfl, (blk_cell BK308.out 11).trans rfl⟩ (fun hHeld => ?_)
                    clear hK K
                    refine norm_ (a' := ?_) ?_ ?_
                    rotate_left
                    · show Act.put _ (some 16) _ = _
                      simp only [Act.put, List.setIfInBounds_toArray, List.set_cons_zero, List.set_cons_succ, i64_w, i32_w]
                      rfl
                    exact norm_ (by first | (simp only [putAll, Act.put, List.setIfInBounds_toArray, List.set_cons_zero, List.set_cons_succ]; done) | (simp only [putAll, Act.put, List.setIfInBounds_toArray, List.set_cons_zero, List.set_cons_succ]; rfl)) (hJ5_9 () _ ⟨hHeld, (by (with_reducible repeat (first | refine blk_drewN ?_ _ | refine blk_drew ?_ | refine blk_alloc ?_ _)); exact BK308.out), (by (with_reducible repeat (first | refine blk_drewN ?_ _ | refine blk_drew ?_ | refine blk_alloc ?_ _)); exact BK309.out), (by (with_reducible repeat (first | refine blk_drewN ?_ _ | refine blk_drew ?_ | refine blk_alloc ?_ _)); exact BK310.out), (by repeat (first | (with_reducible first | exact HB.out | apply below_alloc | apply pw_below_drewN | apply below_drew1 | refine below_set ?_ GE308.out | refine below_set ?_ GE309.out | refine below_set ?_ GE310.out) | exact HB.out))⟩)
                  · skip
                    refine Kd.R_lit_step (Kd.int .i64) _ 3 ?hg (N := 24) ?hd (xs := ([a0_5, a2, a0_4] : List Int)) (inner := [.int .i64 a0_5, .int .i64 a2, .int .i64 a0_4]) (ok := fun _ => True) (okp := fun _ => True) ?hr ?hp (fun _ hk => hk) trivial (Below.refl _ _) (Nat.le_refl _) (by simp) ?_; (case hd => rfl); (case hg => rfl); (case hr => first | (go_simp; done) | (go_simp; rfl)); (case hp => exact (Reps.one (show Kd.M (Kd.int .i64) _ _ _ a0_5 [.int .i64 a0_5] from rfl) (Reps.one (show Kd.M (Kd.int .i64) _ _ _ a2 [.int .i64 a2] from rfl) (Reps.one (show Kd.M (Kd.int .i64) _ _ _ a0_4 [.int .i64 a0_4] from rfl) (Reps.none _ _)))))
                    intro v318 w14 ho15 hb hg_ hnew_
                    clear hg_ hnew_
                    (first | rw [← Ny317.out] at ho15 | (simp only [Int.reduceToNat] at ho15; rw [← Ny317.out] at ho15))
                    have n0_ := Aside0.mk (Kd.R_lower ho15 (below_size (by repeat (first | (with_reducible first | exact HB.out | apply below_alloc | apply pw_below_drewN | apply below_drew1 | refine below_set ?_ GE308.out | refine below_set ?_ GE309.out | refine below_set ?_ GE310.out) | exact HB.out))))
                    have n1_ := Aside0.mk (blk_below (g := gb308) (o := .cells #[.int .i64 a0_0, .int .i64 a0_1, .int .i64 a0_2, .int .i64 a0_3, .int .i64 a0_4, .int .i64 a0_5, .int .i64 a0_6, .int .i64 a0_7, .int .i64 a0_8, .int .i64 a0_9, .int .i64 a0_10, .int .i64 a0_11] 23 (0, 0)) (by (with_reducible repeat (first | refine blk_drewN ?_ _ | refine blk_drew ?_ | refine blk_alloc ?_ _)); exact BK308.out) hb)
                    have n2_ := Aside0.mk (blk_below (g := gb309) (o := .cells #[.int .i64 a1_0, .int .i64 a1_1] 33 (0, 0)) (by (with_reducible repeat (first | refine blk_drewN ?_ _ | refine blk_drew ?_ | refine blk_alloc ?_ _)); exact BK309.out) hb)
                    have n3_ := Aside0.mk (blk_below (g := gb310) (o := .cells #[.int .i64 0, .int .i64 0] 33 (0, 0)) (by (with_reducible repeat (first | refine blk_drewN ?_ _ | refine blk_drew ?_ | refine blk_alloc ?_ _)); exact BK310.out) hb)
                    have n4_ := Aside0.mk (below_step (by repeat (first | (with_reducible first | exact HB.out | apply below_alloc | apply pw_below_drewN | apply below_drew1 | refine below_set ?_ GE308.out | refine below_set ?_ GE309.out | refine below_set ?_ GE310.out) | exact HB.out)) hb)
                    clear BK308
                    clear BK309
                    clear BK310
                    clear HB
                    have HO319 := n0_
                    have BK308 := n1_
                    have BK309 := n2_
                    have BK310 := n3_
                    have HB := n4_
                    clear n0_ n1_ n2_ n3_ n4_
                    clear hb ho15
                    refine hK.out _ _ ⟨(blk_cell BK309.out 0).trans rfl, (blk_cell BK309.out 1).trans rfl, (blk_cell BK308.out 0).trans rfl, (blk_cell BK308.out 1).trans rfl, (blk_cell BK308.out 2).trans rfl, (blk_cell BK308.out 3).trans rfl, (blk_cell BK308.out 4).trans rfl, (blk_cell BK308.out 5).trans rfl, (blk_cell BK308.out 6).trans rfl, (blk_cell BK308.out 7).trans rfl, (blk_cell BK308.out 8).trans rfl, (blk_cell BK308.out 9).trans rfl, (blk_cell BK308.out 10).trans rfl, (blk_cell BK308.out 11).trans rfl⟩ (fun hHeld => ?_)
                    clear hK K
                    refine norm_ (a' := ?_) ?_ ?_
                    rotate_left
                    · show Act.put _ (some 24) _ = _
                      simp only [Act.put, List.setIfInBounds_toArray, List.set_cons_zero, List.set_cons_succ, i64_w, i32_w]
                      rfl
                    exact norm_ (by first | (simp only [putAll, Act.put, List.setIfInBounds_toArray, List.set_cons_zero, List.set_cons_succ]; done) | (simp only [putAll, Act.put, List.setIfInBounds_toArray, List.set_cons_zero, List.set_cons_succ]; rfl)) (hJ5_17 (v318) _ ⟨hHeld, (by (with_reducible repeat (first | apply Kd.R_alloc | apply Kd.R_drewN | apply Kd.R_drew)); exact HO319.out), (by (with_reducible repeat (first | refine blk_drewN ?_ _ | refine blk_drew ?_ | refine blk_alloc ?_ _)); exact BK308.out), (by (with_reducible repeat (first | refine blk_drewN ?_ _ | refine blk_drew ?_ | refine blk_alloc ?_ _)); exact BK309.out), (by (with_reducible repeat (first | refine blk_drewN ?_ _ | refine blk_drew ?_ | refine blk_alloc ?_ _)); exact BK310.out), (by repeat (first | (with_reducible first | exact HB.out | apply below_alloc | apply pw_below_drewN | apply below_drew1 | refine below_set ?_ GE308.out | refine below_set ?_ GE309.out | refine below_set ?_ GE310.out) | exact HB.out))⟩)
              · skip
                rintro v318 w15 ⟨hS_, h0_, h1_, h2_, h3_, h4_⟩
                have n0_ : Aside0 (Kd.R (Kd.int .i64) 3 w15 w.heap.size (fun _ => True) v318 y317) := ⟨h0_⟩
                have n1_ : Aside0 (w15.heap[gb308]? = some (.cells #[.int .i64 a0_0, .int .i64 a0_1, .int .i64 a0_2, .int .i64 a0_3, .int .i64 a0_4, .int .i64 a0_5, .int .i64 a0_6, .int .i64 a0_7, .int .i64 a0_8, .int .i64 a0_9, .int .i64 a0_10, .int .i64 a0_11] 23 (0, 0))) := ⟨h1_⟩
                have n2_ : Aside0 (w15.heap[gb309]? = some (.cells #[.int .i64 a1_0, .int .i64 a1_1] 33 (0, 0))) := ⟨h2_⟩
                have n3_ : Aside0 (w15.heap[gb310]? = some (.cells #[.int .i64 0, .int .i64 0] 33 (0, 0))) := ⟨h3_⟩
                have n4_ : Aside0 (Below w.heap.size w w15) := ⟨h4_⟩
                clear BK308
                clear BK309
                clear BK310
                clear HB
                clear h0_ h1_ h2_ h3_ h4_
                have HO319 := n0_
                have BK308 := n1_
                have BK309 := n2_
                have BK310 := n3_
                have HB := n4_
                clear n0_ n1_ n2_ n3_ n4_
                have hHeld : w15.cell? ⟨gb309, 0, none⟩ = some (.int .i64 a1_0) ∧ w15.cell? ⟨gb309, 1, none⟩ = some (.int .i64 a1_1) ∧ w15.cell? ⟨gb308, 0, none⟩ = some (.int .i64 a0_0) ∧ w15.cell? ⟨gb308, 1, none⟩ = some (.int .i64 a0_1) ∧ w15.cell? ⟨gb308, 2, none⟩ = some (.int .i64 a0_2) ∧ w15.cell? ⟨gb308, 3, none⟩ = some (.int .i64 a0_3) ∧ w15.cell? ⟨gb308, 4, none⟩ = some (.int .i64 a0_4) ∧ w15.cell? ⟨gb308, 5, none⟩ = some (.int .i64 a0_5) ∧ w15.cell? ⟨gb308, 6, none⟩ = some (.int .i64 a0_6) ∧ w15.cell? ⟨gb308, 7, none⟩ = some (.int .i64 a0_7) ∧ w15.cell? ⟨gb308, 8, none⟩ = some (.int .i64 a0_8) ∧ w15.cell? ⟨gb308, 9, none⟩ = some (.int .i64 a0_9) ∧ w15.cell? ⟨gb308, 10, none⟩ = some (.int .i64 a0_10) ∧ w15.cell? ⟨gb308, 11, none⟩ = some (.int .i64 a0_11) := hS_
                refine norm_ (a' := ?_) ?_ ?_
                rotate_left
                · simp only [putAll, Act.put, List.setIfInBounds_toArray, List.set_cons_zero, List.set_cons_succ]
                  rfl
                refine one_ (i := 9) (N := some 16) #[true, true, true, true, true, true, true, true, true, true, false, false, true, true, true, true, true, true, false, false, false] rfl rfl (one_of HT_.out (by kernel_rfl)) (by decide) (fun K hK => ?_)
                refine goes_ Try.func53 (by kernel_rfl) rfl #[.int .i64 a0_4] (by rfl) rfl rfl (by (try simp only [List.map_toArray, List.map_cons, List.map_nil]); first | done | rfl | (simp only [List.length_drop, List.length_take]; rfl)) ?_
                with_reducible refine (sat_Neg.calls k a0_4 t312 _ A5.out).mono ?_
                rintro e w' ⟨rfl, ⟨nd, rfl⟩⟩
                refine ⟨_, rfl, ?_⟩
                refine hK.out _ _ ⟨(blk_cell BK309.out 0).trans rfl, (blk_cell BK309.out 1).trans rfl, (blk_cell BK308.out 0).trans rfl, (blk_cell BK308.out 1).trans rfl, (blk_cell BK308.out 2).trans rfl, (blk_cell BK308.out 3).trans rfl, (blk_cell BK308.out 4).trans rfl, (blk_cell BK308.out 5).trans rfl, (blk_cell BK308.out 6).trans rfl, (blk_cell BK308.out 7).trans rfl, (blk_cell BK308.out 8).trans rfl, (blk_cell BK308.out 9).trans rfl, (blk_cell BK308.out 10).trans rfl, (blk_cell BK308.out 11).trans rfl⟩ (fun hHeld => ?_)
                clear hK K
                refine norm_ (a' := ?_) ?_ ?_
                rotate_left
                · show Act.put _ (some 16) _ = _
                  simp only [Act.put, List.setIfInBounds_toArray, List.set_cons_zero, List.set_cons_succ, i64_w, i32_w]
                  rfl
                exact norm_ (by first | (simp only [putAll, Act.put, List.setIfInBounds_toArray, List.set_cons_zero, List.set_cons_succ]; done) | (simp only [putAll, Act.put, List.setIfInBounds_toArray, List.set_cons_zero, List.set_cons_succ]; rfl)) (hJ5_9_17 (v318) _ ⟨hHeld, (by (with_reducible repeat (first | apply Kd.R_alloc | apply Kd.R_drewN | apply Kd.R_drew)); exact HO319.out), (by (with_reducible repeat (first | refine blk_drewN ?_ _ | refine blk_drew ?_ | refine blk_alloc ?_ _)); exact BK308.out), (by (with_reducible repeat (first | refine blk_drewN ?_ _ | refine blk_drew ?_ | refine blk_alloc ?_ _)); exact BK309.out), (by (with_reducible repeat (first | refine blk_drewN ?_ _ | refine blk_drew ?_ | refine blk_alloc ?_ _)); exact BK310.out), (by repeat (first | (with_reducible first | exact HB.out | apply below_alloc | apply pw_below_drewN | apply below_drew1 | refine below_set ?_ GE308.out | refine below_set ?_ GE309.out | refine below_set ?_ GE310.out) | exact HB.out))⟩)
            · skip
              rintro _ w13 ⟨hS_, h0_, h1_, h2_, h3_⟩
              have n0_ : Aside0 (w13.heap[gb308]? = some (.cells #[.int .i64 a0_0, .int .i64 a0_1, .int .i64 a0_2, .int .i64 a0_3, .int .i64 a0_4, .int .i64 a0_5, .int .i64 a0_6, .int .i64 a0_7, .int .i64 a0_8, .int .i64 a0_9, .int .i64 a0_10, .int .i64 a0_11] 23 (0, 0))) := ⟨h0_⟩
              have n1_ : Aside0 (w13.heap[gb309]? = some (.cells #[.int .i64 a1_0, .int .i64 a1_1] 33 (0, 0))) := ⟨h1_⟩
              have n2_ : Aside0 (w13.heap[gb310]? = some (.cells #[.int .i64 0, .int .i64 0] 33 (0, 0))) := ⟨h2_⟩
              have n3_ : Aside0 (Below w.heap.size w w13) := ⟨h3_⟩
              clear BK308
              clear BK309
              clear BK310
              clear HB
              clear h0_ h1_ h2_ h3_
              have BK308 := n0_
              have BK309 := n1_
              have BK310 := n2_
              have HB := n3_
              clear n0_ n1_ n2_ n3_
              have hHeld : w13.cell? ⟨gb309, 0, none⟩ = some (.int .i64 a1_0) ∧ w13.cell? ⟨gb309, 1, none⟩ = some (.int .i64 a1_1) ∧ w13.cell? ⟨gb308, 0, none⟩ = some (.int .i64 a0_0) ∧ w13.cell? ⟨gb308, 1, none⟩ = some (.int .i64 a0_1) ∧ w13.cell? ⟨gb308, 2, none⟩ = some (.int .i64 a0_2) ∧ w13.cell? ⟨gb308, 3, none⟩ = some (.int .i64 a0_3) ∧ w13.cell? ⟨gb308, 4, none⟩ = some (.int .i64 a0_4) ∧ w13.cell? ⟨gb308, 5, none⟩ = some (.int .i64 a0_5) ∧ w13.cell? ⟨gb308, 6, none⟩ = some (.int .i64 a0_6) ∧ w13.cell? ⟨gb308, 7, none⟩ = some (.int .i64 a0_7) ∧ w13.cell? ⟨gb308, 8, none⟩ = some (.int .i64 a0_8) ∧ w13.cell? ⟨gb308, 9, none⟩ = some (.int .i64 a0_9) ∧ w13.cell? ⟨gb308, 10, none⟩ = some (.int .i64 a0_10) ∧ w13.cell? ⟨gb308, 11, none⟩ = some (.int .i64 a0_11) := hS_
              refine norm_ (a' := ?_) ?_ ?_
              rotate_left
              · simp only [putAll, Act.put, List.setIfInBounds_toArray, List.set_cons_zero, List.set_cons_succ]
                rfl
              refine two_ (i := 10) (j := 17) (Ni := some 17) (Nj := some 24) #[true, true, true, true, true, true, true, true, true, true, true, false, true, true, true, true, true, false, false, false, false] #[true, true, true, true, true, true, true, true, true, true, false, false, true, true, true, true, true, true, false, false, false] rfl rfl rfl rfl (two_of HT_.out (by kernel_rfl)) (by decide) (by decide) (fun K hK => ?_) (fun K hK => ?_)
              · skip
                refine Kd.R_lit_step (Kd.int .i64) _ 3 ?hg (N := 17) ?hd (xs := ([t311, a2, t312] : List Int)) (inner := [.int .i64 t311, .int .i64 a2, .int .i64 t312]) (ok := fun _ => True) (okp := fun _ => True) ?hr ?hp (fun _ hk => hk) trivial (Below.refl _ _) (Nat.le_refl _) (by simp) ?_; (case hd => rfl); (case hg => rfl); (case hr => first | (go_simp; done) | (go_simp; rfl)); (case hp => exact (Reps.one (show Kd.M (Kd.int .i64) _ _ _ t311 [.int .i64 t311] from rfl) (Reps.one (show Kd.M (Kd.int .i64) _ _ _ a2 [.int .i64 a2] from rfl) (Reps.one (show Kd.M (Kd.int .i64) _ _ _ t312 [.int .i64 t312] from rfl) (Reps.none _ _)))))
                intro v314 w14 ho15 hb hg_ hnew_
                clear hg_ hnew_
                (first | rw [← Ny313.out] at ho15 | (simp only [Int.reduceToNat] at ho15; rw [← Ny313.out] at ho15))
                have n0_ := Aside0.mk (Kd.R_lower ho15 (below_size (by repeat (first | (with_reducible first | exact HB.out | apply below_alloc | apply pw_below_drewN | apply below_drew1 | refine below_set ?_ GE308.out | refine below_set ?_ GE309.out | refine below_set ?_ GE310.out) | exact HB.out))))
                have n1_ := Aside0.mk (blk_below (g := gb308) (o := .cells #[.int .i64 a0_0, .int .i64 a0_1, .int .i64 a0_2, .int .i64 a0_3, .int .i64 a0_4, .int .i64 a0_5, .int .i64 a0_6, .int .i64 a0_7, .int .i64 a0_8, .int .i64 a0_9, .int .i64 a0_10, .int .i64 a0_11] 23 (0, 0)) (by (with_reducible repeat (first | refine blk_drewN ?_ _ | refine blk_drew ?_ | refine blk_alloc ?_ _)); exact BK308.out) hb)
                have n2_ := Aside0.mk (blk_below (g := gb309) (o := .cells #[.int .i64 a1_0, .int .i64 a1_1] 33 (0, 0)) (by (with_reducible repeat (first | refine blk_drewN ?_ _ | refine blk_drew ?_ | refine blk_alloc ?_ _)); exact BK309.out) hb)
                have n3_ := Aside0.mk (blk_below (g := gb310) (o := .cells #[.int .i64 0, .int .i64 0] 33 (0, 0)) (by (with_reducible repeat (first | refine blk_drewN ?_ _ | refine blk_drew ?_ | refine blk_alloc ?_ _)); exact BK310.out) hb)
                have n4_ := Aside0.mk (below_step (by repeat (first | (with_reducible first | exact HB.out | apply below_alloc | apply pw_below_drewN | apply below_drew1 | refine below_set ?_ GE308.out | refine below_set ?_ GE309.out | refine below_set ?_ GE310.out) | exact HB.out)) hb)
                clear BK308
                clear BK309
                clear BK310
                clear HB
                have HO315 := n0_
                have BK308 := n1_
                have BK309 := n2_
                have BK310 := n3_
                have HB := n4_
                clear n0_ n1_ n2_ n3_ n4_
                clear hb ho15
                refine hK.out _ _ ⟨(blk_cell BK309.out 0).trans rfl, (blk_cell BK309.out 1).trans rfl, (blk_cell BK308.out 0).trans rfl, (blk_cell BK308.out 1).trans rfl, (blk_cell BK308.out 2).trans rfl, (blk_cell BK308.out 3).trans rfl, (blk_cell BK308.out 4).trans rfl, (blk_cell BK308.out 5).trans rfl, (blk_cell BK308.out 6).trans rfl, (blk_cell BK308.out 7).trans rfl, (blk_cell BK308.out 8).trans rfl, (blk_cell BK308.out 9).trans rfl, (blk_cell BK308.out 10).trans rfl, (blk_cell BK308.out 11).trans rfl⟩ (fun hHeld => ?_)
                clear hK K
                refine norm_ (a' := ?_) ?_ ?_
                rotate_left
                · show Act.put _ (some 17) _ = _
                  simp only [Act.put, List.setIfInBounds_toArray, List.set_cons_zero, List.set_cons_succ, i64_w, i32_w]
                  rfl
                exact norm_ (by first | (simp only [putAll, Act.put, List.setIfInBounds_toArray, List.set_cons_zero, List.set_cons_succ]; done) | (simp only [putAll, Act.put, List.setIfInBounds_toArray, List.set_cons_zero, List.set_cons_succ]; rfl)) (hJ5_9_10 (v314) _ ⟨hHeld, (by (with_reducible repeat (first | apply Kd.R_alloc | apply Kd.R_drewN | apply Kd.R_drew)); exact HO315.out), (by (with_reducible repeat (first | refine blk_drewN ?_ _ | refine blk_drew ?_ | refine blk_alloc ?_ _)); exact BK308.out), (by (with_reducible repeat (first | refine blk_drewN ?_ _ | refine blk_drew ?_ | refine blk_alloc ?_ _)); exact BK309.out), (by (with_reducible repeat (first | refine blk_drewN ?_ _ | refine blk_drew ?_ | refine blk_alloc ?_ _)); exact BK310.out), (by repeat (first | (with_reducible first | exact HB.out | apply below_alloc | apply pw_below_drewN | apply below_drew1 | refine below_set ?_ GE308.out | refine below_set ?_ GE309.out | refine below_set ?_ GE310.out) | exact HB.out))⟩)
              · skip
                refine Kd.R_lit_step (Kd.int .i64) _ 3 ?hg (N := 24) ?hd (xs := ([a0_5, a2, a0_4] : List Int)) (inner := [.int .i64 a0_5, .int .i64 a2, .int .i64 a0_4]) (ok := fun _ => True) (okp := fun _ => True) ?hr ?hp (fun _ hk => hk) trivial (Below.refl _ _) (Nat.le_refl _) (by simp) ?_; (case hd => rfl); (case hg => rfl); (case hr => first | (go_simp; done) | (go_simp; rfl)); (case hp => exact (Reps.one (show Kd.M (Kd.int .i64) _ _ _ a0_5 [.int .i64 a0_5] from rfl) (Reps.one (show Kd.M (Kd.int .i64) _ _ _ a2 [.int .i64 a2] from rfl) (Reps.one (show Kd.M (Kd.int .i64) _ _ _ a0_4 [.int .i64 a0_4] from rfl) (Reps.none _ _)))))
                intro v318 w14 ho15 hb hg_ hnew_
                clear hg_ hnew_
                (first | rw [← Ny317.out] at ho15 | (simp only [Int.reduceToNat] at ho15; rw [← Ny317.out] at ho15))
                have n0_ := Aside0.mk (Kd.R_lower ho15 (below_size (by repeat (first | (with_reducible first | exact HB.out | apply below_alloc | apply pw_below_drewN | apply below_drew1 | refine below_set ?_ GE308.out | refine below_set ?_ GE309.out | refine below_set ?_ GE310.out) | exact HB.out))))
                have n1_ := Aside0.mk (blk_below (g := gb308) (o := .cells #[.int .i64 a0_0, .int .i64 a0_1, .int .i64 a0_2, .int .i64 a0_3, .int .i64 a0_4, .int .i64 a0_5, .int .i64 a0_6, .int .i64 a0_7, .int .i64 a0_8, .int .i64 a0_9, .int .i64 a0_10, .int .i64 a0_11] 23 (0, 0)) (by (with_reducible repeat (first | refine blk_drewN ?_ _ | refine blk_drew ?_ | refine blk_alloc ?_ _)); exact BK308.out) hb)
                have n2_ := Aside0.mk (blk_below (g := gb309) (o := .cells #[.int .i64 a1_0, .int .i64 a1_1] 33 (0, 0)) (by (with_reducible repeat (first | refine blk_drewN ?_ _ | refine blk_drew ?_ | refine blk_alloc ?_ _)); exact BK309.out) hb)
                have n3_ := Aside0.mk (blk_below (g := gb310) (o := .cells #[.int .i64 0, .int .i64 0] 33 (0, 0)) (by (with_reducible repeat (first | refine blk_drewN ?_ _ | refine blk_drew ?_ | refine blk_alloc ?_ _)); exact BK310.out) hb)
                have n4_ := Aside0.mk (below_step (by repeat (first | (with_reducible first | exact HB.out | apply below_alloc | apply pw_below_drewN | apply below_drew1 | refine below_set ?_ GE308.out | refine below_set ?_ GE309.out | refine below_set ?_ GE310.out) | exact HB.out)) hb)
                clear BK308
                clear BK309
                clear BK310
                clear HB
                have HO319 := n0_
                have BK308 := n1_
                have BK309 := n2_
                have BK310 := n3_
                have HB := n4_
                clear n0_ n1_ n2_ n3_ n4_
                clear hb ho15
                refine hK.out _ _ ⟨(blk_cell BK309.out 0).trans rfl, (blk_cell BK309.out 1).trans rfl, (blk_cell BK308.out 0).trans rfl, (blk_cell BK308.out 1).trans rfl, (blk_cell BK308.out 2).trans rfl, (blk_cell BK308.out 3).trans rfl, (blk_cell BK308.out 4).trans rfl, (blk_cell BK308.out 5).trans rfl, (blk_cell BK308.out 6).trans rfl, (blk_cell BK308.out 7).trans rfl, (blk_cell BK308.out 8).trans rfl, (blk_cell BK308.out 9).trans rfl, (blk_cell BK308.out 10).trans rfl, (blk_cell BK308.out 11).trans rfl⟩ (fun hHeld => ?_)
                clear hK K
                refine norm_ (a' := ?_) ?_ ?_
                rotate_left
                · show Act.put _ (some 24) _ = _
                  simp only [Act.put, List.setIfInBounds_toArray, List.set_cons_zero, List.set_cons_succ, i64_w, i32_w]
                  rfl
                exact norm_ (by first | (simp only [putAll, Act.put, List.setIfInBounds_toArray, List.set_cons_zero, List.set_cons_succ]; done) | (simp only [putAll, Act.put, List.setIfInBounds_toArray, List.set_cons_zero, List.set_cons_succ]; rfl)) (hJ5_9_17 (v318) _ ⟨hHeld, (by (with_reducible repeat (first | apply Kd.R_alloc | apply Kd.R_drewN | apply Kd.R_drew)); exact HO319.out), (by (with_reducible repeat (first | refine blk_drewN ?_ _ | refine blk_drew ?_ | refine blk_alloc ?_ _)); exact BK308.out), (by (with_reducible repeat (first | refine blk_drewN ?_ _ | refine blk_drew ?_ | refine blk_alloc ?_ _)); exact BK309.out), (by (with_reducible repeat (first | refine blk_drewN ?_ _ | refine blk_drew ?_ | refine blk_alloc ?_ _)); exact BK310.out), (by repeat (first | (with_reducible first | exact HB.out | apply below_alloc | apply pw_below_drewN | apply below_drew1 | refine below_set ?_ GE308.out | refine below_set ?_ GE309.out | refine below_set ?_ GE310.out) | exact HB.out))⟩)
          · skip
            rintro v318 w15 ⟨hS_, h0_, h1_, h2_, h3_, h4_⟩
            have n0_ : Aside0 (Kd.R (Kd.int .i64) 3 w15 w.heap.size (fun _ => True) v318 y317) := ⟨h0_⟩
            have n1_ : Aside0 (w15.heap[gb308]? = some (.cells #[.int .i64 a0_0, .int .i64 a0_1, .int .i64 a0_2, .int .i64 a0_3, .int .i64 a0_4, .int .i64 a0_5, .int .i64 a0_6, .int .i64 a0_7, .int .i64 a0_8, .int .i64 a0_9, .int .i64 a0_10, .int .i64 a0_11] 23 (0, 0))) := ⟨h1_⟩
            have n2_ : Aside0 (w15.heap[gb309]? = some (.cells #[.int .i64 a1_0, .int .i64 a1_1] 33 (0, 0))) := ⟨h2_⟩
            have n3_ : Aside0 (w15.heap[gb310]? = some (.cells #[.int .i64 0, .int .i64 0] 33 (0, 0))) := ⟨h3_⟩
            have n4_ : Aside0 (Below w.heap.size w w15) := ⟨h4_⟩
            clear BK308
            clear BK309
            clear BK310
            clear HB
            clear h0_ h1_ h2_ h3_ h4_
            have HO319 := n0_
            have BK308 := n1_
            have BK309 := n2_
            have BK310 := n3_
            have HB := n4_
            clear n0_ n1_ n2_ n3_ n4_
            have hHeld : w15.cell? ⟨gb309, 0, none⟩ = some (.int .i64 a1_0) ∧ w15.cell? ⟨gb309, 1, none⟩ = some (.int .i64 a1_1) ∧ w15.cell? ⟨gb308, 0, none⟩ = some (.int .i64 a0_0) ∧ w15.cell? ⟨gb308, 1, none⟩ = some (.int .i64 a0_1) ∧ w15.cell? ⟨gb308, 2, none⟩ = some (.int .i64 a0_2) ∧ w15.cell? ⟨gb308, 3, none⟩ = some (.int .i64 a0_3) ∧ w15.cell? ⟨gb308, 4, none⟩ = some (.int .i64 a0_4) ∧ w15.cell? ⟨gb308, 5, none⟩ = some (.int .i64 a0_5) ∧ w15.cell? ⟨gb308, 6, none⟩ = some (.int .i64 a0_6) ∧ w15.cell? ⟨gb308, 7, none⟩ = some (.int .i64 a0_7) ∧ w15.cell? ⟨gb308, 8, none⟩ = some (.int .i64 a0_8) ∧ w15.cell? ⟨gb308, 9, none⟩ = some (.int .i64 a0_9) ∧ w15.cell? ⟨gb308, 10, none⟩ = some (.int .i64 a0_10) ∧ w15.cell? ⟨gb308, 11, none⟩ = some (.int .i64 a0_11) := hS_
            refine norm_ (a' := ?_) ?_ ?_
            rotate_left
            · simp only [putAll, Act.put, List.setIfInBounds_toArray, List.set_cons_zero, List.set_cons_succ]
              rfl
            refine one_ (i := 10) (N := some 17) #[true, true, true, true, true, true, true, true, true, true, true, false, true, true, true, true, true, true, false, false, false] rfl rfl (one_of HT_.out (by kernel_rfl)) (by decide) (fun K hK => ?_)
            refine Kd.R_lit_step (Kd.int .i64) _ 3 ?hg (N := 17) ?hd (xs := ([t311, a2, t312] : List Int)) (inner := [.int .i64 t311, .int .i64 a2, .int .i64 t312]) (ok := fun _ => True) (okp := fun _ => True) ?hr ?hp (fun _ hk => hk) trivial (Below.refl _ _) (Nat.le_refl _) (by simp) ?_; (case hd => rfl); (case hg => rfl); (case hr => first | (go_simp; done) | (go_simp; rfl)); (case hp => exact (Reps.one (show Kd.M (Kd.int .i64) _ _ _ t311 [.int .i64 t311] from rfl) (Reps.one (show Kd.M (Kd.int .i64) _ _ _ a2 [.int .i64 a2] from rfl) (Reps.one (show Kd.M (Kd.int .i64) _ _ _ t312 [.int .i64 t312] from rfl) (Reps.none _ _)))))
            intro v314 w16 ho17 hb hg_ hnew_
            clear hg_ hnew_
            (first | rw [← Ny313.out] at ho17 | (simp only [Int.reduceToNat] at ho17; rw [← Ny313.out] at ho17))
            have n0_ := Aside0.mk (Kd.R_elder' (by (with_reducible repeat (first | apply Kd.R_alloc | apply Kd.R_drewN | apply Kd.R_drew)); exact HO319.out) (Kd.R_base ho17) hb)
            have n1_ := Aside0.mk (Kd.R_lower (Kd.R_new' ho17 (Kd.R_lt (by (with_reducible repeat (first | apply Kd.R_alloc | apply Kd.R_drewN | apply Kd.R_drew)); exact HO319.out))) (below_size (by repeat (first | (with_reducible first | exact HB.out | apply below_alloc | apply pw_below_drewN | apply below_drew1 | refine below_set ?_ GE308.out | refine below_set ?_ GE309.out | refine below_set ?_ GE310.out) | exact HB.out))))
            have n2_ := Aside0.mk (blk_below (g := gb308) (o := .cells #[.int .i64 a0_0, .int .i64 a0_1, .int .i64 a0_2, .int .i64 a0_3, .int .i64 a0_4, .int .i64 a0_5, .int .i64 a0_6, .int .i64 a0_7, .int .i64 a0_8, .int .i64 a0_9, .int .i64 a0_10, .int .i64 a0_11] 23 (0, 0)) (by (with_reducible repeat (first | refine blk_drewN ?_ _ | refine blk_drew ?_ | refine blk_alloc ?_ _)); exact BK308.out) hb)
            have n3_ := Aside0.mk (blk_below (g := gb309) (o := .cells #[.int .i64 a1_0, .int .i64 a1_1] 33 (0, 0)) (by (with_reducible repeat (first | refine blk_drewN ?_ _ | refine blk_drew ?_ | refine blk_alloc ?_ _)); exact BK309.out) hb)
            have n4_ := Aside0.mk (blk_below (g := gb310) (o := .cells #[.int .i64 0, .int .i64 0] 33 (0, 0)) (by (with_reducible repeat (first | refine blk_drewN ?_ _ | refine blk_drew ?_ | refine blk_alloc ?_ _)); exact BK310.out) hb)
            have n5_ := Aside0.mk (below_step (by repeat (first | (with_reducible first | exact HB.out | apply below_alloc | apply pw_below_drewN | apply below_drew1 | refine below_set ?_ GE308.out | refine below_set ?_ GE309.out | refine below_set ?_ GE310.out) | exact HB.out)) hb)
            clear HO319
            clear BK308
            clear BK309
            clear BK310
            clear HB
            have HO319 := n0_
            have HO315 := n1_
            have BK308 := n2_
            have BK309 := n3_
            have BK310 := n4_
            have HB := n5_
            clear n0_ n1_ n2_ n3_ n4_ n5_
            clear hb ho17
            refine hK.out _ _ ⟨(blk_cell BK309.out 0).trans rfl, (blk_cell BK309.out 1).trans rfl, (blk_cell BK308.out 0).trans rfl, (blk_cell BK308.out 1).trans rfl, (blk_cell BK308.out 2).trans rfl, (blk_cell BK308.out 3).trans rfl, (blk_cell BK308.out 4).trans rfl, (blk_cell BK308.out 5).trans rfl, (blk_cell BK308.out 6).trans rfl, (blk_cell BK308.out 7).trans rfl, (blk_cell BK308.out 8).trans rfl, (blk_cell BK308.out 9).trans rfl, (blk_cell BK308.out 10).trans rfl, (blk_cell BK308.out 11).trans rfl⟩ (fun hHeld => ?_)
            clear hK K
            refine norm_ (a' := ?_) ?_ ?_
            rotate_left
            · show Act.put _ (some 17) _ = _
              simp only [Act.put, List.setIfInBounds_toArray, List.set_cons_zero, List.set_cons_succ, i64_w, i32_w]
              rfl
            exact norm_ (by first | (simp only [putAll, Act.put, List.setIfInBounds_toArray, List.set_cons_zero, List.set_cons_succ]; done) | (simp only [putAll, Act.put, List.setIfInBounds_toArray, List.set_cons_zero, List.set_cons_succ]; rfl)) (hJ5_9_10_17 (v314, v318) _ ⟨hHeld, (by (with_reducible repeat (first | apply Kd.R_alloc | apply Kd.R_drewN | apply Kd.R_drew)); exact Kd.R_mono HO315.out (fun _ hk => hk.2)), (by (with_reducible repeat (first | apply Kd.R_alloc | apply Kd.R_drewN | apply Kd.R_drew)); exact Kd.R_mono HO319.out (fun _ hk => hk.2)), (by (with_reducible repeat (first | refine blk_drewN ?_ _ | refine blk_drew ?_ | refine blk_alloc ?_ _)); exact BK308.out), (by (with_reducible repeat (first | refine blk_drewN ?_ _ | refine blk_drew ?_ | refine blk_alloc ?_ _)); exact BK309.out), (by (with_reducible repeat (first | refine blk_drewN ?_ _ | refine blk_drew ?_ | refine blk_alloc ?_ _)); exact BK310.out), (by repeat (first | (with_reducible first | exact HB.out | apply below_alloc | apply pw_below_drewN | apply below_drew1 | refine below_set ?_ GE308.out | refine below_set ?_ GE309.out | refine below_set ?_ GE310.out) | exact HB.out))⟩)
        · skip
          rintro v314 w15 ⟨hS_, h0_, h1_, h2_, h3_, h4_⟩
          have n0_ : Aside0 (Kd.R (Kd.int .i64) 3 w15 w.heap.size (fun _ => True) v314 y313) := ⟨h0_⟩
          have n1_ : Aside0 (w15.heap[gb308]? = some (.cells #[.int .i64 a0_0, .int .i64 a0_1, .int .i64 a0_2, .int .i64 a0_3, .int .i64 a0_4, .int .i64 a0_5, .int .i64 a0_6, .int .i64 a0_7, .int .i64 a0_8, .int .i64 a0_9, .int .i64 a0_10, .int .i64 a0_11] 23 (0, 0))) := ⟨h1_⟩
          have n2_ : Aside0 (w15.heap[gb309]? = some (.cells #[.int .i64 a1_0, .int .i64 a1_1] 33 (0, 0))) := ⟨h2_⟩
          have n3_ : Aside0 (w15.heap[gb310]? = some (.cells #[.int .i64 0, .int .i64 0] 33 (0, 0))) := ⟨h3_⟩
          have n4_ : Aside0 (Below w.heap.size w w15) := ⟨h4_⟩
          clear BK308
          clear BK309
          clear BK310
          clear HB
          clear h0_ h1_ h2_ h3_ h4_
          have HO315 := n0_
          have BK308 := n1_
          have BK309 := n2_
          have BK310 := n3_
          have HB := n4_
          clear n0_ n1_ n2_ n3_ n4_
          have hHeld : w15.cell? ⟨gb309, 0, none⟩ = some (.int .i64 a1_0) ∧ w15.cell? ⟨gb309, 1, none⟩ = some (.int .i64 a1_1) ∧ w15.cell? ⟨gb308, 0, none⟩ = some (.int .i64 a0_0) ∧ w15.cell? ⟨gb308, 1, none⟩ = some (.int .i64 a0_1) ∧ w15.cell? ⟨gb308, 2, none⟩ = some (.int .i64 a0_2) ∧ w15.cell? ⟨gb308, 3, none⟩ = some (.int .i64 a0_3) ∧ w15.cell? ⟨gb308, 4, none⟩ = some (.int .i64 a0_4) ∧ w15.cell? ⟨gb308, 5, none⟩ = some (.int .i64 a0_5) ∧ w15.cell? ⟨gb308, 6, none⟩ = some (.int .i64 a0_6) ∧ w15.cell? ⟨gb308, 7, none⟩ = some (.int .i64 a0_7) ∧ w15.cell? ⟨gb308, 8, none⟩ = some (.int .i64 a0_8) ∧ w15.cell? ⟨gb308, 9, none⟩ = some (.int .i64 a0_9) ∧ w15.cell? ⟨gb308, 10, none⟩ = some (.int .i64 a0_10) ∧ w15.cell? ⟨gb308, 11, none⟩ = some (.int .i64 a0_11) := hS_
          obtain ⟨Ao16, co16, eo16⟩ := Kd.R_slice HO315.out
          (first | subst eo16 | (injection eo16 with f1_ f2_ f3_; have f4_ := f1_.symm; have f5_ := f3_.symm; clear f1_ f2_ f3_; subst f4_; subst f5_))
          refine norm_ (a' := ?_) ?_ ?_
          rotate_left
          · simp only [putAll, Act.put, List.setIfInBounds_toArray, List.set_cons_zero, List.set_cons_succ]
            rfl
          refine two_ (i := 11) (j := 17) (Ni := some 18) (Nj := some 24) #[true, true, true, true, true, true, true, true, true, true, true, true, true, true, true, true, true, false, false, false, false] #[true, true, true, true, true, true, true, true, true, true, true, false, true, true, true, true, true, true, false, false, false] rfl rfl rfl rfl (two_of HT_.out (by kernel_rfl)) (by decide) (by decide) (fun K hK => ?_) (fun K hK => ?_)
          · skip
            refine goes_ Try.func41 (by kernel_rfl) rfl #[.slice Ao16 y313.length co16] (by rfl) rfl rfl (by (try simp only [List.map_toArray, List.map_cons, List.map_nil]); first | done | rfl | (simp only [List.length_drop, List.length_take]; rfl)) ?_
            with_reducible refine (sat_Add.calls k _ _ y313 t316 _ ?side1 ?side2 A6.out).mono ?_
            (case side1 => repeat (first | exact (Kd.R_reads' HO315.out).2.2 | (with_reducible refine Kd.C_alloc ?_ _) | (with_reducible refine Kd.C_drewN ?_ _) | (with_reducible refine Kd.C_drew ?_)))
            (case side2 => exact (Kd.R_reads' HO315.out).2.1)
            rintro e w' ⟨rfl, ⟨nd, rfl⟩⟩
            refine ⟨_, rfl, ?_⟩
            refine hK.out _ _ ⟨(blk_cell BK309.out 0).trans rfl, (blk_cell BK309.out 1).trans rfl, (blk_cell BK308.out 0).trans rfl, (blk_cell BK308.out 1).trans rfl, (blk_cell BK308.out 2).trans rfl, (blk_cell BK308.out 3).trans rfl, (blk_cell BK308.out 4).trans rfl, (blk_cell BK308.out 5).trans rfl, (blk_cell BK308.out 6).trans rfl, (blk_cell BK308.out 7).trans rfl, (blk_cell BK308.out 8).trans rfl, (blk_cell BK308.out 9).trans rfl, (blk_cell BK308.out 10).trans rfl, (blk_cell BK308.out 11).trans rfl⟩ (fun hHeld => ?_)
            clear hK K
            refine norm_ (a' := ?_) ?_ ?_
            rotate_left
            · show Act.put _ (some 18) _ = _
              simp only [Act.put, List.setIfInBounds_toArray, List.set_cons_zero, List.set_cons_succ, i64_w, i32_w]
              rfl
            exact norm_ (by first | (simp only [putAll, Act.put, List.setIfInBounds_toArray, List.set_cons_zero, List.set_cons_succ]; done) | (simp only [putAll, Act.put, List.setIfInBounds_toArray, List.set_cons_zero, List.set_cons_succ]; rfl)) (hJ5_9_10_11 (.slice Ao16 y313.length co16) _ ⟨hHeld, (by (with_reducible repeat (first | apply Kd.R_alloc | apply Kd.R_drewN | apply Kd.R_drew)); exact HO315.out), (by (with_reducible repeat (first | refine blk_drewN ?_ _ | refine blk_drew ?_ | refine blk_alloc ?_ _)); exact BK308.out), (by (with_reducible repeat (first | refine blk_drewN ?_ _ | refine blk_drew ?_ | refine blk_alloc ?_ _)); exact BK309.out), (by (with_reducible repeat (first | refine blk_drewN ?_ _ | refine blk_drew ?_ | refine blk_alloc ?_ _)); exact BK310.out), (by repeat (first | (with_reducible first | exact HB.out | apply below_alloc | apply pw_below_drewN | apply below_drew1 | refine below_set ?_ GE308.out | refine below_set ?_ GE309.out | refine below_set ?_ GE310.out) | exact HB.out))⟩)
          · skip
            refine Kd.R_lit_step (Kd.int .i64) _ 3 ?hg (N := 24) ?hd (xs := ([a0_5, a2, a0_4] : List Int)) (inner := [.int .i64 a0_5, .int .i64 a2, .int .i64 a0_4]) (ok := fun _ => True) (okp := fun _ => True) ?hr ?hp (fun _ hk => hk) trivial (Below.refl _ _) (Nat.le_refl _) (by simp) ?_; (case hd => rfl); (case hg => rfl); (case hr => first | (go_simp; done) | (go_simp; rfl)); (case hp => exact (Reps.one (show Kd.M (Kd.int .i64) _ _ _ a0_5 [.int .i64 a0_5] from rfl) (Reps.one (show Kd.M (Kd.int .i64) _ _ _ a2 [.int .i64 a2] from rfl) (Reps.one (show Kd.M (Kd.int .i64) _ _ _ a0_4 [.int .i64 a0_4] from rfl) (Reps.none _ _)))))
            intro v318 w16 ho17 hb hg_ hnew_
            clear hg_ hnew_
            (first | rw [← Ny317.out] at ho17 | (simp only [Int.reduceToNat] at ho17; rw [← Ny317.out] at ho17))
            have n0_ := Aside0.mk (Kd.R_elder' (by (with_reducible repeat (first | apply Kd.R_alloc | apply Kd.R_drewN | apply Kd.R_drew)); exact HO315.out) (Kd.R_base ho17) hb)
            have n1_ := Aside0.mk (Kd.R_lower (Kd.R_new' ho17 (Kd.R_lt (by (with_reducible repeat (first | apply Kd.R_alloc | apply Kd.R_drewN | apply Kd.R_drew)); exact HO315.out))) (below_size (by repeat (first | (with_reducible first | exact HB.out | apply below_alloc | apply pw_below_drewN | apply below_drew1 | refine below_set ?_ GE308.out | refine below_set ?_ GE309.out | refine below_set ?_ GE310.out) | exact HB.out))))
            have n2_ := Aside0.mk (blk_below (g := gb308) (o := .cells #[.int .i64 a0_0, .int .i64 a0_1, .int .i64 a0_2, .int .i64 a0_3, .int .i64 a0_4, .int .i64 a0_5, .int .i64 a0_6, .int .i64 a0_7, .int .i64 a0_8, .int .i64 a0_9, .int .i64 a0_10, .int .i64 a0_11] 23 (0, 0)) (by (with_reducible repeat (first | refine blk_drewN ?_ _ | refine blk_drew ?_ | refine blk_alloc ?_ _)); exact BK308.out) hb)
            have n3_ := Aside0.mk (blk_below (g := gb309) (o := .cells #[.int .i64 a1_0, .int .i64 a1_1] 33 (0, 0)) (by (with_reducible repeat (first | refine blk_drewN ?_ _ | refine blk_drew ?_ | refine blk_alloc ?_ _)); exact BK309.out) hb)
            have n4_ := Aside0.mk (blk_below (g := gb310) (o := .cells #[.int .i64 0, .int .i64 0] 33 (0, 0)) (by (with_reducible repeat (first | refine blk_drewN ?_ _ | refine blk_drew ?_ | refine blk_alloc ?_ _)); exact BK310.out) hb)
            have n5_ := Aside0.mk (below_step (by repeat (first | (with_reducible first | exact HB.out | apply below_alloc | apply pw_below_drewN | apply below_drew1 | refine below_set ?_ GE308.out | refine below_set ?_ GE309.out | refine below_set ?_ GE310.out) | exact HB.out)) hb)
            clear HO315
            clear BK308
            clear BK309
            clear BK310
            clear HB
            have HO315 := n0_
            have HO319 := n1_
            have BK308 := n2_
            have BK309 := n3_
            have BK310 := n4_
            have HB := n5_
            clear n0_ n1_ n2_ n3_ n4_ n5_
            clear hb ho17
            refine hK.out _ _ ⟨(blk_cell BK309.out 0).trans rfl, (blk_cell BK309.out 1).trans rfl, (blk_cell BK308.out 0).trans rfl, (blk_cell BK308.out 1).trans rfl, (blk_cell BK308.out 2).trans rfl, (blk_cell BK308.out 3).trans rfl, (blk_cell BK308.out 4).trans rfl, (blk_cell BK308.out 5).trans rfl, (blk_cell BK308.out 6).trans rfl, (blk_cell BK308.out 7).trans rfl, (blk_cell BK308.out 8).trans rfl, (blk_cell BK308.out 9).trans rfl, (blk_cell BK308.out 10).trans rfl, (blk_cell BK308.out 11).trans rfl⟩ (fun hHeld => ?_)
            clear hK K
            refine norm_ (a' := ?_) ?_ ?_
            rotate_left
            · show Act.put _ (some 24) _ = _
              simp only [Act.put, List.setIfInBounds_toArray, List.set_cons_zero, List.set_cons_succ, i64_w, i32_w]
              rfl
            exact norm_ (by first | (simp only [putAll, Act.put, List.setIfInBounds_toArray, List.set_cons_zero, List.set_cons_succ]; done) | (simp only [putAll, Act.put, List.setIfInBounds_toArray, List.set_cons_zero, List.set_cons_succ]; rfl)) (hJ5_9_10_17 (.slice Ao16 y313.length co16, v318) _ ⟨hHeld, (by (with_reducible repeat (first | apply Kd.R_alloc | apply Kd.R_drewN | apply Kd.R_drew)); exact Kd.R_mono HO315.out (fun _ hk => hk.2)), (by (with_reducible repeat (first | apply Kd.R_alloc | apply Kd.R_drewN | apply Kd.R_drew)); exact Kd.R_mono HO319.out (fun _ hk => hk.2)), (by (with_reducible repeat (first | refine blk_drewN ?_ _ | refine blk_drew ?_ | refine blk_alloc ?_ _)); exact BK308.out), (by (with_reducible repeat (first | refine blk_drewN ?_ _ | refine blk_drew ?_ | refine blk_alloc ?_ _)); exact BK309.out), (by (with_reducible repeat (first | refine blk_drewN ?_ _ | refine blk_drew ?_ | refine blk_alloc ?_ _)); exact BK310.out), (by repeat (first | (with_reducible first | exact HB.out | apply below_alloc | apply pw_below_drewN | apply below_drew1 | refine below_set ?_ GE308.out | refine below_set ?_ GE309.out | refine below_set ?_ GE310.out) | exact HB.out))⟩)
      · skip
        rintro ⟨v314, v318⟩ w17 ⟨hS_, h0_, h1_, h2_, h3_, h4_, h5_⟩
        have n0_ : Aside0 (Kd.R (Kd.int .i64) 3 w17 w.heap.size (fun k_ => some k_ ≠ (v318 : Value).ownBlock) v314 y313) := ⟨h0_⟩
        have n1_ : Aside0 (Kd.R (Kd.int .i64) 3 w17 w.heap.size (fun k_ => some k_ ≠ (v314 : Value).ownBlock) v318 y317) := ⟨h1_⟩
        have n2_ : Aside0 (w17.heap[gb308]? = some (.cells #[.int .i64 a0_0, .int .i64 a0_1, .int .i64 a0_2, .int .i64 a0_3, .int .i64 a0_4, .int .i64 a0_5, .int .i64 a0_6, .int .i64 a0_7, .int .i64 a0_8, .int .i64 a0_9, .int .i64 a0_10, .int .i64 a0_11] 23 (0, 0))) := ⟨h2_⟩
        have n3_ : Aside0 (w17.heap[gb309]? = some (.cells #[.int .i64 a1_0, .int .i64 a1_1] 33 (0, 0))) := ⟨h3_⟩
        have n4_ : Aside0 (w17.heap[gb310]? = some (.cells #[.int .i64 0, .int .i64 0] 33 (0, 0))) := ⟨h4_⟩
        have n5_ : Aside0 (Below w.heap.size w w17) := ⟨h5_⟩
        clear BK308
        clear BK309
        clear BK310
        clear HB
        clear h0_ h1_ h2_ h3_ h4_ h5_
        have HO315 := n0_
        have HO319 := n1_
        have BK308 := n2_
        have BK309 := n3_
        have BK310 := n4_
        have HB := n5_
        clear n0_ n1_ n2_ n3_ n4_ n5_
        have hHeld : w17.cell? ⟨gb309, 0, none⟩ = some (.int .i64 a1_0) ∧ w17.cell? ⟨gb309, 1, none⟩ = some (.int .i64 a1_1) ∧ w17.cell? ⟨gb308, 0, none⟩ = some (.int .i64 a0_0) ∧ w17.cell? ⟨gb308, 1, none⟩ = some (.int .i64 a0_1) ∧ w17.cell? ⟨gb308, 2, none⟩ = some (.int .i64 a0_2) ∧ w17.cell? ⟨gb308, 3, none⟩ = some (.int .i64 a0_3) ∧ w17.cell? ⟨gb308, 4, none⟩ = some (.int .i64 a0_4) ∧ w17.cell? ⟨gb308, 5, none⟩ = some (.int .i64 a0_5) ∧ w17.cell? ⟨gb308, 6, none⟩ = some (.int .i64 a0_6) ∧ w17.cell? ⟨gb308, 7, none⟩ = some (.int .i64 a0_7) ∧ w17.cell? ⟨gb308, 8, none⟩ = some (.int .i64 a0_8) ∧ w17.cell? ⟨gb308, 9, none⟩ = some (.int .i64 a0_9) ∧ w17.cell? ⟨gb308, 10, none⟩ = some (.int .i64 a0_10) ∧ w17.cell? ⟨gb308, 11, none⟩ = some (.int .i64 a0_11) := hS_
        obtain ⟨Ao18, co18, eo18⟩ := Kd.R_slice HO315.out
        (first | subst eo18 | (injection eo18 with f1_ f2_ f3_; have f4_ := f1_.symm; have f5_ := f3_.symm; clear f1_ f2_ f3_; subst f4_; subst f5_))
        refine norm_ (a' := ?_) ?_ ?_
        rotate_left
        · simp only [putAll, Act.put, List.setIfInBounds_toArray, List.set_cons_zero, List.set_cons_succ]
          rfl
        refine one_ (i := 11) (N := some 18) #[true, true, true, true, true, true, true, true, true, true, true, true, true, true, true, true, true, true, false, false, false] rfl rfl (one_of HT_.out (by kernel_rfl)) (by decide) (fun K hK => ?_)
        refine goes_ Try.func41 (by kernel_rfl) rfl #[.slice Ao18 y313.length co18] (by rfl) rfl rfl (by (try simp only [List.map_toArray, List.map_cons, List.map_nil]); first | done | rfl | (simp only [List.length_drop, List.length_take]; rfl)) ?_
        with_reducible refine (sat_Add.calls k _ _ y313 t316 _ ?side1 ?side2 A6.out).mono ?_
        (case side1 => repeat (first | exact (Kd.R_reads' HO315.out).2.2 | (with_reducible refine Kd.C_alloc ?_ _) | (with_reducible refine Kd.C_drewN ?_ _) | (with_reducible refine Kd.C_drew ?_)))
        (case side2 => exact (Kd.R_reads' HO315.out).2.1)
        rintro e w' ⟨rfl, ⟨nd, rfl⟩⟩
        refine ⟨_, rfl, ?_⟩
        refine hK.out _ _ ⟨(blk_cell BK309.out 0).trans rfl, (blk_cell BK309.out 1).trans rfl, (blk_cell BK308.out 0).trans rfl, (blk_cell BK308.out 1).trans rfl, (blk_cell BK308.out 2).trans rfl, (blk_cell BK308.out 3).trans rfl, (blk_cell BK308.out 4).trans rfl, (blk_cell BK308.out 5).trans rfl, (blk_cell BK308.out 6).trans rfl, (blk_cell BK308.out 7).trans rfl, (blk_cell BK308.out 8).trans rfl, (blk_cell BK308.out 9).trans rfl, (blk_cell BK308.out 10).trans rfl, (blk_cell BK308.out 11).trans rfl⟩ (fun hHeld => ?_)
        clear hK K
        refine norm_ (a' := ?_) ?_ ?_
        rotate_left
        · show Act.put _ (some 18) _ = _
          simp only [Act.put, List.setIfInBounds_toArray, List.set_cons_zero, List.set_cons_succ, i64_w, i32_w]
          rfl
        exact norm_ (by first | (simp only [putAll, Act.put, List.setIfInBounds_toArray, List.set_cons_zero, List.set_cons_succ]; done) | (simp only [putAll, Act.put, List.setIfInBounds_toArray, List.set_cons_zero, List.set_cons_succ]; rfl)) (hJ5_9_10_11_17 (.slice Ao18 y313.length co18, v318) _ ⟨hHeld, (by (with_reducible repeat (first | apply Kd.R_alloc | apply Kd.R_drewN | apply Kd.R_drew)); exact HO315.out), (by (with_reducible repeat (first | apply Kd.R_alloc | apply Kd.R_drewN | apply Kd.R_drew)); exact HO319.out), (by (with_reducible repeat (first | refine blk_drewN ?_ _ | refine blk_drew ?_ | refine blk_alloc ?_ _)); exact BK308.out), (by (with_reducible repeat (first | refine blk_drewN ?_ _ | refine blk_drew ?_ | refine blk_alloc ?_ _)); exact BK309.out), (by (with_reducible repeat (first | refine blk_drewN ?_ _ | refine blk_drew ?_ | refine blk_alloc ?_ _)); exact BK310.out), (by repeat (first | (with_reducible first | exact HB.out | apply below_alloc | apply pw_below_drewN | apply below_drew1 | refine below_set ?_ GE308.out | refine below_set ?_ GE309.out | refine below_set ?_ GE310.out) | exact HB.out))⟩)
    · skip
      rintro v314 w16 ⟨hS_, h0_, h1_, h2_, h3_, h4_⟩
      have n0_ : Aside0 (Kd.R (Kd.int .i64) 3 w16 w.heap.size (fun _ => True) v314 y313) := ⟨h0_⟩
      have n1_ : Aside0 (w16.heap[gb308]? = some (.cells #[.int .i64 a0_0, .int .i64 a0_1, .int .i64 a0_2, .int .i64 a0_3, .int .i64 a0_4, .int .i64 a0_5, .int .i64 a0_6, .int .i64 a0_7, .int .i64 a0_8, .int .i64 a0_9, .int .i64 a0_10, .int .i64 a0_11] 23 (0, 0))) := ⟨h1_⟩
      have n2_ : Aside0 (w16.heap[gb309]? = some (.cells #[.int .i64 a1_0, .int .i64 a1_1] 33 (0, 0))) := ⟨h2_⟩
      have n3_ : Aside0 (w16.heap[gb310]? = some (.cells #[.int .i64 0, .int .i64 0] 33 (0, 0))) := ⟨h3_⟩
      have n4_ : Aside0 (Below w.heap.size w w16) := ⟨h4_⟩
      clear BK308
      clear BK309
      clear BK310
      clear HB
      clear h0_ h1_ h2_ h3_ h4_
      have HO315 := n0_
      have BK308 := n1_
      have BK309 := n2_
      have BK310 := n3_
      have HB := n4_
      clear n0_ n1_ n2_ n3_ n4_
      have hHeld : w16.cell? ⟨gb309, 0, none⟩ = some (.int .i64 a1_0) ∧ w16.cell? ⟨gb309, 1, none⟩ = some (.int .i64 a1_1) ∧ w16.cell? ⟨gb308, 0, none⟩ = some (.int .i64 a0_0) ∧ w16.cell? ⟨gb308, 1, none⟩ = some (.int .i64 a0_1) ∧ w16.cell? ⟨gb308, 2, none⟩ = some (.int .i64 a0_2) ∧ w16.cell? ⟨gb308, 3, none⟩ = some (.int .i64 a0_3) ∧ w16.cell? ⟨gb308, 4, none⟩ = some (.int .i64 a0_4) ∧ w16.cell? ⟨gb308, 5, none⟩ = some (.int .i64 a0_5) ∧ w16.cell? ⟨gb308, 6, none⟩ = some (.int .i64 a0_6) ∧ w16.cell? ⟨gb308, 7, none⟩ = some (.int .i64 a0_7) ∧ w16.cell? ⟨gb308, 8, none⟩ = some (.int .i64 a0_8) ∧ w16.cell? ⟨gb308, 9, none⟩ = some (.int .i64 a0_9) ∧ w16.cell? ⟨gb308, 10, none⟩ = some (.int .i64 a0_10) ∧ w16.cell? ⟨gb308, 11, none⟩ = some (.int .i64 a0_11) := hS_
      refine norm_ (a' := ?_) ?_ ?_
      rotate_left
      · simp only [putAll, Act.put, List.setIfInBounds_toArray, List.set_cons_zero, List.set_cons_succ]
        rfl
      refine one_ (i := 17) (N := some 24) #[true, true, true, true, true, true, true, true, true, true, true, true, true, true, true, true, true, true, false, false, false] rfl rfl (one_of HT_.out (by kernel_rfl)) (by decide) (fun K hK => ?_)
      refine Kd.R_lit_step (Kd.int .i64) _ 3 ?hg (N := 24) ?hd (xs := ([a0_5, a2, a0_4] : List Int)) (inner := [.int .i64 a0_5, .int .i64 a2, .int .i64 a0_4]) (ok := fun _ => True) (okp := fun _ => True) ?hr ?hp (fun _ hk => hk) trivial (Below.refl _ _) (Nat.le_refl _) (by simp) ?_; (case hd => rfl); (case hg => rfl); (case hr => first | (go_simp; done) | (go_simp; rfl)); (case hp => exact (Reps.one (show Kd.M (Kd.int .i64) _ _ _ a0_5 [.int .i64 a0_5] from rfl) (Reps.one (show Kd.M (Kd.int .i64) _ _ _ a2 [.int .i64 a2] from rfl) (Reps.one (show Kd.M (Kd.int .i64) _ _ _ a0_4 [.int .i64 a0_4] from rfl) (Reps.none _ _)))))
      intro v318 w17 ho18 hb hg_ hnew_
      clear hg_ hnew_
      (first | rw [← Ny317.out] at ho18 | (simp only [Int.reduceToNat] at ho18; rw [← Ny317.out] at ho18))
      have n0_ := Aside0.mk (Kd.R_elder' (by (with_reducible repeat (first | apply Kd.R_alloc | apply Kd.R_drewN | apply Kd.R_drew)); exact HO315.out) (Kd.R_base ho18) hb)
      have n1_ := Aside0.mk (Kd.R_lower (Kd.R_new' ho18 (Kd.R_lt (by (with_reducible repeat (first | apply Kd.R_alloc | apply Kd.R_drewN | apply Kd.R_drew)); exact HO315.out))) (below_size (by repeat (first | (with_reducible first | exact HB.out | apply below_alloc | apply pw_below_drewN | apply below_drew1 | refine below_set ?_ GE308.out | refine below_set ?_ GE309.out | refine below_set ?_ GE310.out) | exact HB.out))))
      have n2_ := Aside0.mk (blk_below (g := gb308) (o := .cells #[.int .i64 a0_0, .int .i64 a0_1, .int .i64 a0_2, .int .i64 a0_3, .int .i64 a0_4, .int .i64 a0_5, .int .i64 a0_6, .int .i64 a0_7, .int .i64 a0_8, .int .i64 a0_9, .int .i64 a0_10, .int .i64 a0_11] 23 (0, 0)) (by (with_reducible repeat (first | refine blk_drewN ?_ _ | refine blk_drew ?_ | refine blk_alloc ?_ _)); exact BK308.out) hb)
      have n3_ := Aside0.mk (blk_below (g := gb309) (o := .cells #[.int .i64 a1_0, .int .i64 a1_1] 33 (0, 0)) (by (with_reducible repeat (first | refine blk_drewN ?_ _ | refine blk_drew ?_ | refine blk_alloc ?_ _)); exact BK309.out) hb)
      have n4_ := Aside0.mk (blk_below (g := gb310) (o := .cells #[.int .i64 0, .int .i64 0] 33 (0, 0)) (by (with_reducible repeat (first | refine blk_drewN ?_ _ | refine blk_drew ?_ | refine blk_alloc ?_ _)); exact BK310.out) hb)
      have n5_ := Aside0.mk (below_step (by repeat (first | (with_reducible first | exact HB.out | apply below_alloc | apply pw_below_drewN | apply below_drew1 | refine below_set ?_ GE308.out | refine below_set ?_ GE309.out | refine below_set ?_ GE310.out) | exact HB.out)) hb)
      clear HO315
      clear BK308
      clear BK309
      clear BK310
      clear HB
      have HO315 := n0_
      have HO319 := n1_
      have BK308 := n2_
      have BK309 := n3_
      have BK310 := n4_
      have HB := n5_
      clear n0_ n1_ n2_ n3_ n4_ n5_
      clear hb ho18
      refine hK.out _ _ ⟨(blk_cell BK309.out 0).trans rfl, (blk_cell BK309.out 1).trans rfl, (blk_cell BK308.out 0).trans rfl, (blk_cell BK308.out 1).trans rfl, (blk_cell BK308.out 2).trans rfl, (blk_cell BK308.out 3).trans rfl, (blk_cell BK308.out 4).trans rfl, (blk_cell BK308.out 5).trans rfl, (blk_cell BK308.out 6).trans rfl, (blk_cell BK308.out 7).trans rfl, (blk_cell BK308.out 8).trans rfl, (blk_cell BK308.out 9).trans rfl, (blk_cell BK308.out 10).trans rfl, (blk_cell BK308.out 11).trans rfl⟩ (fun hHeld => ?_)
      clear hK K
      refine norm_ (a' := ?_) ?_ ?_
      rotate_left
      · show Act.put _ (some 24) _ = _
        simp only [Act.put, List.setIfInBounds_toArray, List.set_cons_zero, List.set_cons_succ, i64_w, i32_w]
        rfl
      exact norm_ (by first | (simp only [putAll, Act.put, List.setIfInBounds_toArray, List.set_cons_zero, List.set_cons_succ]; done) | (simp only [putAll, Act.put, List.setIfInBounds_toArray, List.set_cons_zero, List.set_cons_succ]; rfl)) (hJ5_9_10_11_17 (v314, v318) _ ⟨hHeld, (by (with_reducible repeat (first | apply Kd.R_alloc | apply Kd.R_drewN | apply Kd.R_drew)); exact Kd.R_mono HO315.out (fun _ hk => hk.2)), (by (with_reducible repeat (first | apply Kd.R_alloc | apply Kd.R_drewN | apply Kd.R_drew)); exact Kd.R_mono HO319.out (fun _ hk => hk.2)), (by (with_reducible repeat (first | refine blk_drewN ?_ _ | refine blk_drew ?_ | refine blk_alloc ?_ _)); exact BK308.out), (by (with_reducible repeat (first | refine blk_drewN ?_ _ | refine blk_drew ?_ | refine blk_alloc ?_ _)); exact BK309.out), (by (with_reducible repeat (first | refine blk_drewN ?_ _ | refine blk_drew ?_ | refine blk_alloc ?_ _)); exact BK310.out), (by repeat (first | (with_reducible first | exact HB.out | apply below_alloc | apply pw_below_drewN | apply below_drew1 | refine below_set ?_ GE308.out | refine below_set ?_ GE309.out | refine below_set ?_ GE310.out) | exact HB.out))⟩)
  rintro ⟨v314, v318⟩ w18 ⟨hS_, h0_, h1_, h2_, h3_, h4_, h5_⟩
  have n0_ : Aside0 (Kd.R (Kd.int .i64) 3 w18 w.heap.size (fun k_ => some k_ ≠ (v318 : Value).ownBlock) v314 y313) := ⟨h0_⟩
  have n1_ : Aside0 (Kd.R (Kd.int .i64) 3 w18 w.heap.size (fun k_ => some k_ ≠ (v314 : Value).ownBlock) v318 y317) := ⟨h1_⟩
  have n2_ : Aside0 (w18.heap[gb308]? = some (.cells #[.int .i64 a0_0, .int .i64 a0_1, .int .i64 a0_2, .int .i64 a0_3, .int .i64 a0_4, .int .i64 a0_5, .int .i64 a0_6, .int .i64 a0_7, .int .i64 a0_8, .int .i64 a0_9, .int .i64 a0_10, .int .i64 a0_11] 23 (0, 0))) := ⟨h2_⟩
  have n3_ : Aside0 (w18.heap[gb309]? = some (.cells #[.int .i64 a1_0, .int .i64 a1_1] 33 (0, 0))) := ⟨h3_⟩
  have n4_ : Aside0 (w18.heap[gb310]? = some (.cells #[.int .i64 0, .int .i64 0] 33 (0, 0))) := ⟨h4_⟩
  have n5_ : Aside0 (Below w.heap.size w w18) := ⟨h5_⟩
  clear BK308
  clear BK309
  clear BK310
  clear HB
  clear h0_ h1_ h2_ h3_ h4_ h5_
  have HO315 := n0_
  have HO319 := n1_
  have BK308 := n2_
  have BK309 := n3_
  have BK310 := n4_
  have HB := n5_
  clear n0_ n1_ n2_ n3_ n4_ n5_
  have hHeld : w18.cell? ⟨gb309, 0, none⟩ = some (.int .i64 a1_0) ∧ w18.cell? ⟨gb309, 1, none⟩ = some (.int .i64 a1_1) ∧ w18.cell? ⟨gb308, 0, none⟩ = some (.int .i64 a0_0) ∧ w18.cell? ⟨gb308, 1, none⟩ = some (.int .i64 a0_1) ∧ w18.cell? ⟨gb308, 2, none⟩ = some (.int .i64 a0_2) ∧ w18.cell? ⟨gb308, 3, none⟩ = some (.int .i64 a0_3) ∧ w18.cell? ⟨gb308, 4, none⟩ = some (.int .i64 a0_4) ∧ w18.cell? ⟨gb308, 5, none⟩ = some (.int .i64 a0_5) ∧ w18.cell? ⟨gb308, 6, none⟩ = some (.int .i64 a0_6) ∧ w18.cell? ⟨gb308, 7, none⟩ = some (.int .i64 a0_7) ∧ w18.cell? ⟨gb308, 8, none⟩ = some (.int .i64 a0_8) ∧ w18.cell? ⟨gb308, 9, none⟩ = some (.int .i64 a0_9) ∧ w18.cell? ⟨gb308, 10, none⟩ = some (.int .i64 a0_10) ∧ w18.cell? ⟨gb308, 11, none⟩ = some (.int .i64 a0_11) := hS_
  obtain ⟨Ao19, co19, eo19⟩ := Kd.R_slice HO319.out
  (first | subst eo19 | (injection eo19 with f1_ f2_ f3_; have f4_ := f1_.symm; have f5_ := f3_.symm; clear f1_ f2_ f3_; subst f4_; subst f5_))
  refine norm_ (a' := ?_) ?_ ?_
  rotate_left
  · simp only [putAll, Act.put, List.setIfInBounds_toArray, List.set_cons_zero, List.set_cons_succ]
    rfl
  refine one_ (i := 18) (N := some 25) #[true, true, true, true, true, true, true, true, true, true, true, true, true, true, true, true, true, true, true, false, false] rfl rfl (one_of HT_.out (by kernel_rfl)) (by decide) (fun K hK => ?_)
  refine goes_ Try.func41 (by kernel_rfl) rfl #[.slice Ao19 y317.length co19] (by rfl) rfl rfl (by (try simp only [List.map_toArray, List.map_cons, List.map_nil]); first | done | rfl | (simp only [List.length_drop, List.length_take]; rfl)) ?_
  with_reducible refine (sat_Add.calls k _ _ y317 t320 _ ?side1 ?side2 A7.out).mono ?_
  (case side1 => repeat (first | exact (Kd.R_reads' HO319.out).2.2 | (with_reducible refine Kd.C_alloc ?_ _) | (with_reducible refine Kd.C_drewN ?_ _) | (with_reducible refine Kd.C_drew ?_)))
  (case side2 => exact (Kd.R_reads' HO319.out).2.1)
  rintro e w' ⟨rfl, ⟨nd, rfl⟩⟩
  refine ⟨_, rfl, ?_⟩
  refine hK.out _ _ ⟨(blk_cell BK309.out 0).trans rfl, (blk_cell BK309.out 1).trans rfl, (blk_cell BK308.out 0).trans rfl, (blk_cell BK308.out 1).trans rfl, (blk_cell BK308.out 2).trans rfl, (blk_cell BK308.out 3).trans rfl, (blk_cell BK308.out 4).trans rfl, (blk_cell BK308.out 5).trans rfl, (blk_cell BK308.out 6).trans rfl, (blk_cell BK308.out 7).trans rfl, (blk_cell BK308.out 8).trans rfl, (blk_cell BK308.out 9).trans rfl, (blk_cell BK308.out 10).trans rfl, (blk_cell BK308.out 11).trans rfl⟩ (fun hHeld => ?_)
  clear hK K
  refine norm_ (a' := ?_) ?_ ?_
  rotate_left
  · show Act.put _ (some 25) _ = _
    simp only [Act.put, List.setIfInBounds_toArray, List.set_cons_zero, List.set_cons_succ, i64_w, i32_w]
    rfl
  refine one_ (i := 19) (N := some 26) #[true, true, true, true, true, true, true, true, true, true, true, true, true, true, true, true, true, true, true, true, false] rfl rfl (one_of HT_.out (by kernel_rfl)) (by decide) (fun K hK => ?_)
  refine goes_ Try.func52 (by kernel_rfl) rfl #[.agg #[.int .i64 a1_0, .int .i64 a1_1], .int .i64 t316, .int .i64 t320] (by rfl) rfl rfl (by (try simp only [List.map_toArray, List.map_cons, List.map_nil]); first | done | rfl | (simp only [List.length_drop, List.length_take]; rfl)) ?_
  with_reducible refine (span_Shift.calls k a1_0 a1_1 t316 t320 t321 t322 _ A8.out).mono ?_
  rintro e w20 ⟨rfl, hb⟩
  refine ⟨_, rfl, ?_⟩
  have n0_ := Aside0.mk (Kd.R_below (by (with_reducible repeat (first | apply Kd.R_alloc | apply Kd.R_drewN | apply Kd.R_drew)); exact HO315.out) hb)
  have n1_ := Aside0.mk (Kd.R_below (by (with_reducible repeat (first | apply Kd.R_alloc | apply Kd.R_drewN | apply Kd.R_drew)); exact HO319.out) hb)
  have n2_ := Aside0.mk (blk_below (g := gb308) (o := .cells #[.int .i64 a0_0, .int .i64 a0_1, .int .i64 a0_2, .int .i64 a0_3, .int .i64 a0_4, .int .i64 a0_5, .int .i64 a0_6, .int .i64 a0_7, .int .i64 a0_8, .int .i64 a0_9, .int .i64 a0_10, .int .i64 a0_11] 23 (0, 0)) (by (with_reducible repeat (first | refine blk_drewN ?_ _ | refine blk_drew ?_ | refine blk_alloc ?_ _)); exact BK308.out) hb)
  have n3_ := Aside0.mk (blk_below (g := gb309) (o := .cells #[.int .i64 a1_0, .int .i64 a1_1] 33 (0, 0)) (by (with_reducible repeat (first | refine blk_drewN ?_ _ | refine blk_drew ?_ | refine blk_alloc ?_ _)); exact BK309.out) hb)
  have n4_ := Aside0.mk (blk_below (g := gb310) (o := .cells #[.int .i64 0, .int .i64 0] 33 (0, 0)) (by (with_reducible repeat (first | refine blk_drewN ?_ _ | refine blk_drew ?_ | refine blk_alloc ?_ _)); exact BK310.out) hb)
  have n5_ := Aside0.mk (below_step (by repeat (first | (with_reducible first | exact HB.out | apply below_alloc | apply pw_below_drewN | apply below_drew1 | refine below_set ?_ GE308.out | refine below_set ?_ GE309.out | refine below_set ?_ GE310.out) | exact HB.out)) hb)
  clear HO315
  clear HO319
  clear BK308
  clear BK309
  clear BK310
  clear HB
  have HO315 := n0_
  have HO319 := n1_
  have BK308 := n2_
  have BK309 := n3_
  have BK310 := n4_
  have HB := n5_
  clear n0_ n1_ n2_ n3_ n4_ n5_
  (try clear hb)
  (try clear hb2)
  (try clear hk)
  (try clear hi)
  refine hK.out _ _ ⟨(blk_cell BK309.out 0).trans rfl, (blk_cell BK309.out 1).trans rfl, (blk_cell BK308.out 0).trans rfl, (blk_cell BK308.out 1).trans rfl, (blk_cell BK308.out 2).trans rfl, (blk_cell BK308.out 3).trans rfl, (blk_cell BK308.out 4).trans rfl, (blk_cell BK308.out 5).trans rfl, (blk_cell BK308.out 6).trans rfl, (blk_cell BK308.out 7).trans rfl, (blk_cell BK308.out 8).trans rfl, (blk_cell BK308.out 9).trans rfl, (blk_cell BK308.out 10).trans rfl, (blk_cell BK308.out 11).trans rfl⟩ (fun hHeld => ?_)
  clear hK K
  refine norm_ (a' := ?_) ?_ ?_
  rotate_left
  · show Act.put _ (some 26) _ = _
    simp only [Act.put, List.setIfInBounds_toArray, List.set_cons_zero, List.set_cons_succ, i64_w, i32_w]
    rfl
  refine one_ (i := 20) (N := none) #[true, true, true, true, true, true, true, true, true, true, true, true, true, true, true, true, true, true, true, true, true] rfl rfl (one_of HT_.out (by kernel_rfl)) (by decide) (fun K hK => ?_)
  have hs21 : w20.cell? ⟨gb310, 0, none⟩ = some (.int .i64 0) := (blk_cell BK310.out 0).trans rfl
  have hfs21 := blk_frozen BK310.out 0
  have hns21_0 := NB308_310.out
  have hns21_1 := NB309_310.out
  have hms21_0 := NB310_308.out
  have hms21_1 := NB310_309.out
  have hs22 : w20.cell? ⟨gb310, 1, none⟩ = some (.int .i64 0) := (blk_cell BK310.out 1).trans rfl
  have hfs22 := blk_frozen BK310.out 1
  have hns22_0 := NB308_310.out
  have hns22_1 := NB309_310.out
  have hms22_0 := NB310_308.out
  have hms22_1 := NB310_309.out
  refine skip_ (w1 := ?_) (by rfl) rfl ?_ ?_
  rotate_left
  · go_simp
    rfl
  refine hK.out _ _ ⟨((cell_far (p := ⟨gb310, _, none⟩) NB309_310.out _).trans (((cell_far (p := ⟨gb310, _, none⟩) NB309_310.out _).trans (hHeld.1)))), ((cell_far (p := ⟨gb310, _, none⟩) NB309_310.out _).trans (((cell_far (p := ⟨gb310, _, none⟩) NB309_310.out _).trans (hHeld.2.1)))), ((cell_far (p := ⟨gb310, _, none⟩) NB308_310.out _).trans (((cell_far (p := ⟨gb310, _, none⟩) NB308_310.out _).trans (hHeld.2.2.1)))), ((cell_far (p := ⟨gb310, _, none⟩) NB308_310.out _).trans (((cell_far (p := ⟨gb310, _, none⟩) NB308_310.out _).trans (hHeld.2.2.2.1)))), ((cell_far (p := ⟨gb310, _, none⟩) NB308_310.out _).trans (((cell_far (p := ⟨gb310, _, none⟩) NB308_310.out _).trans (hHeld.2.2.2.2.1)))), ((cell_far (p := ⟨gb310, _, none⟩) NB308_310.out _).trans (((cell_far (p := ⟨gb310, _, none⟩) NB308_310.out _).trans (hHeld.2.2.2.2.2.1)))), ((cell_far (p := ⟨gb310, _, none⟩) NB308_310.out _).trans (((cell_far (p := ⟨gb310, _, none⟩) NB308_310.out _).trans (hHeld.2.2.2.2.2.2.1)))), ((cell_far (p := ⟨gb310, _, none⟩) NB308_310.out _).trans (((cell_far (p := ⟨gb310, _, none⟩) NB308_310.out _).trans (hHeld.2.2.2.2.2.2.2.1)))), ((cell_far (p := ⟨gb310, _, none⟩) NB308_310.out _).trans (((cell_far (p := ⟨gb310, _, none⟩) NB308_310.out _).trans (hHeld.2.2.2.2.2.2.2.2.1)))), ((cell_far (p := ⟨gb310, _, none⟩) NB308_310.out _).trans (((cell_far (p := ⟨gb310, _, none⟩) NB308_310.out _).trans (hHeld.2.2.2.2.2.2.2.2.2.1)))), ((cell_far (p := ⟨gb310, _, none⟩) NB308_310.out _).trans (((cell_far (p := ⟨gb310, _, none⟩) NB308_310.out _).trans (hHeld.2.2.2.2.2.2.2.2.2.2.1)))), ((cell_far (p := ⟨gb310, _, none⟩) NB308_310.out _).trans (((cell_far (p := ⟨gb310, _, none⟩) NB308_310.out _).trans (hHeld.2.2.2.2.2.2.2.2.2.2.2.1)))), ((cell_far (p := ⟨gb310, _, none⟩) NB308_310.out _).trans (((cell_far (p := ⟨gb310, _, none⟩) NB308_310.out _).trans (hHeld.2.2.2.2.2.2.2.2.2.2.2.2.1)))), ((cell_far (p := ⟨gb310, _, none⟩) NB308_310.out _).trans (((cell_far (p := ⟨gb310, _, none⟩) NB308_310.out _).trans (hHeld.2.2.2.2.2.2.2.2.2.2.2.2.2))))⟩ (fun hHeld => ?_)
  clear hK K
  refine done_ (done_of HT_.out (by kernel_rfl)) ?_
  try go_wp2
  refine bodyPost_ret (results_cell_row rfl _ _ gb310 33 #[.int .i64 t321, .int .i64 t322] (0, 0) _ rfl (by (with_reducible repeat (first | refine blk_drewN ?_ _ | refine blk_drew ?_ | refine blk_alloc ?_ _)); refine blk_put (cs := #[.int .i64 t321, .int .i64 0]) ?_ 1 _ rfl; (with_reducible repeat (first | refine blk_drewN ?_ _ | refine blk_drew ?_ | refine blk_alloc ?_ _)); refine blk_put (cs := #[.int .i64 0, .int .i64 0]) ?_ 0 _ rfl; (with_reducible repeat (first | refine blk_drewN ?_ _ | refine blk_drew ?_ | refine blk_alloc ?_ _)); exact BK310.out) Try.underlying33 rfl (by kernel_rfl)) rfl ?_
  exact ⟨by first | rfl | (simp [errW_none, errW_some] <;> rfl) | (simp [*, errW_none, errW_some] <;> rfl), by repeat (first | (with_reducible first | exact HB.out | apply below_alloc | apply pw_below_drewN | apply below_drew1 | refine below_set ?_ GE308.out | refine below_set ?_ GE309.out | refine below_set ?_ GE310.out) | exact HB.out)⟩

/-! ### sat_Abs: function 63 -/
def sat_Abs.f (k : Nat) (a0 : Int) : Option (Int) := if a0 < 0 then ((sat_Neg.f k a0).bind fun t323 => (some t323)) else ((sat_Clip.f k a0).bind fun t324 => (some t324))
theorem sat_Abs.mono : ∀ a0 k, LeO (sat_Abs.f k a0) (sat_Abs.f (k + 1) a0) := by
  intro a0 k
  unfold sat_Abs.f
  repeat' first
      | (with_reducible exact sat_Clip.mono _ _)
      | (with_reducible exact sat_Neg.mono _ _)
      | (with_reducible exact LeO.refl _)
      | (with_reducible exact LeO.none _)
      | (with_reducible refine LeO.ite ?_ ?_)
      | (with_reducible refine LeO.bind ?_ (fun _ => ?_))
      | exact sat_Clip.mono _ _
      | exact sat_Neg.mono _ _
      | exact LeO.none _
      | refine LeO.ite ?_ ?_
      | refine LeO.bind ?_ (fun _ => ?_)
set_option maxHeartbeats 8000000 in
set_option maxRecDepth 100000 in
theorem sat_Abs.calls (k : Nat) (a0 : Int) (r : Int) (w : World) (h : sat_Abs.f k a0 = some r) :
    Calls Try.prog 63 #[.int .i64 a0] w fun e w' => e = .returned (.int .i64 r) ∧ Drawn0 w w' := by
  have H : (if a0 < 0 then ((sat_Neg.f k a0).bind fun t323 => (some t323)) else ((sat_Clip.f k a0).bind fun t324 => (some t324))) = some r := h
  clear h
  by_cases c2 : a0 < 0
  · rw [if_pos c2] at H
    have c2b0 : decide (a0 < 0) = true := decide_eq_true c2
    clear c2
    replace H := Option.bind_eq_some_iff.mp H
    obtain ⟨t323, A30, H⟩ := H
    replace H : (some t323) = some r := H
    have A3 := Aside0.mk A30
    clear A30
    obtain rfl := Option.some.inj H
    go_enter Try.func63, Try.ntmps63
    go_wp2_with (first | ((with_reducible refine gate_callee (f := 53) rfl ?_); refine goesL_ (some 6) rfl rfl Try.func53 (by kernel_rfl) rfl #[.int .i64 a0] rfl (by (try simp only [List.map_toArray, List.map_cons, List.map_nil]); first | done | rfl | (simp only [List.length_drop, List.length_take]; rfl)) ?_; (with_reducible refine (sat_Neg.calls k a0 t323 _ A3.out).mono ?_); rintro e w' ⟨rfl, ⟨nd, rfl⟩⟩; refine ⟨_, rfl, ?_⟩))
    go_ret
    exact ⟨by first | rfl | (simp; done) | (simp [*]; done), by repeat (first | exact Drawn0.refl _ | apply Drawn0.step)⟩
  · rw [if_neg c2] at H
    have c2b0 : decide (a0 < 0) = false := decide_eq_false c2
    clear c2
    replace H := Option.bind_eq_some_iff.mp H
    obtain ⟨t324, A40, H⟩ := H
    replace H : (some t324) = some r := H
    have A4 := Aside0.mk A40
    clear A40
    obtain rfl := Option.some.inj H
    go_enter Try.func63, Try.ntmps63
    go_wp2_with (first | ((with_reducible refine gate_callee (f := 59) rfl ?_); refine goesL_ (some 8) rfl rfl Try.func59 (by kernel_rfl) rfl #[.int .i64 a0] rfl (by (try simp only [List.map_toArray, List.map_cons, List.map_nil]); first | done | rfl | (simp only [List.length_drop, List.length_take]; rfl)) ?_; (with_reducible refine (sat_Clip.calls k a0 t324 _ A4.out).mono ?_); rintro e w' ⟨rfl, ⟨nd, rfl⟩⟩; refine ⟨_, rfl, ?_⟩))
    go_ret
    exact ⟨by first | rfl | (simp; done) | (simp [*]; done), by repeat (first | exact Drawn0.refl _ | apply Drawn0.step)⟩

end Go.Proofs.Ytaiggeogiolbnaa.H
