-- Laid by a program of this session out of the translation (over the print of the kit); Lean checks it.
import Derived.Test.YtaiggeogiolbnaaQ0
import Derived.Test.YtaiggeogiolbnaaQ6
namespace Go.Proofs.Ytaiggeogiolbnaa.Q
open Go.RowKit Go.Proofs.YtaiggeogiolbnaaW.PrintWords Go.Proofs.YtaiggeogiolbnaaW.PrintLast Go.Proofs.YtaiggeogiolbnaaW.PrintMore
attribute [local go_sem] max2_int min2_int max_two min_two max_three min_three max_four min_four   -- for this text's walks alone
set_option linter.unusedVariables false
set_option linter.unusedSimpArgs false

/-! ### clepsydraref15_Choose: function 20 -/
def clepsydraref15_Choose.l0 : Nat → List (S38) → Int → List (S38) → Int → Int → Int → Int → Int → Int → Int → Int → Int → Int → Int → Int → Int → Int → Option (Int)
  | 0, _, _, _, _, _, _, _, _, _, _, _, _, _, _, _, _, _ => none
  | k + 1, x1, x5, x8, x9, x10, x129000, x129001, x129002, x129003, x129004, x129005, x129006, x129007, x129008, x129009, x129010, x129011 => if x10 < x9 then (if 0 ≤ x10 then (if x10 < (x8.length : Int) then ((clepsydraref15_Usable.f x129000 x129001 x129002 x129003 x129004 x129005 x129006 x129007 x129008 x129009 x129010 x129011 ((rd_T38 x8 x10).f0) ((rd_T38 x8 x10).f1) ((rd_T38 x8 x10).f2.f0) ((rd_T38 x8 x10).f2.f1) ((rd_T38 x8 x10).f3) ((rd_T38 x8 x10).f4) ((rd_T38 x8 x10).f5) ((rd_T38 x8 x10).f6) ((rd_T38 x8 x10).f7.f0) ((rd_T38 x8 x10).f7.f1) ((rd_T38 x8 x10).f8) ((rd_T38 x8 x10).f9.f0) ((rd_T38 x8 x10).f9.f1) ((rd_T38 x8 x10).f10)).bind fun t131 => (if t131 = true then (if x5 < 0 then (clepsydraref15_Choose.l0 k x1 x10 x8 x9 (wrap64 (x10 + 1)) x129000 x129001 x129002 x129003 x129004 x129005 x129006 x129007 x129008 x129009 x129010 x129011) else (if 0 ≤ x5 then (if x5 < (x1.length : Int) then ((clepsydraref15_before.f ((rd_T38 x8 x10).f0) ((rd_T38 x8 x10).f1) ((rd_T38 x8 x10).f2.f0) ((rd_T38 x8 x10).f2.f1) ((rd_T38 x8 x10).f3) ((rd_T38 x8 x10).f4) ((rd_T38 x8 x10).f5) ((rd_T38 x8 x10).f6) ((rd_T38 x8 x10).f7.f0) ((rd_T38 x8 x10).f7.f1) ((rd_T38 x8 x10).f8) ((rd_T38 x8 x10).f9.f0) ((rd_T38 x8 x10).f9.f1) ((rd_T38 x8 x10).f10) ((rd_T38 x1 x5).f0) ((rd_T38 x1 x5).f1) ((rd_T38 x1 x5).f2.f0) ((rd_T38 x1 x5).f2.f1) ((rd_T38 x1 x5).f3) ((rd_T38 x1 x5).f4) ((rd_T38 x1 x5).f5) ((rd_T38 x1 x5).f6) ((rd_T38 x1 x5).f7.f0) ((rd_T38 x1 x5).f7.f1) ((rd_T38 x1 x5).f8) ((rd_T38 x1 x5).f9.f0) ((rd_T38 x1 x5).f9.f1) ((rd_T38 x1 x5).f10)).bind fun t133 => (if t133 = true then (clepsydraref15_Choose.l0 k x1 x10 x8 x9 (wrap64 (x10 + 1)) x129000 x129001 x129002 x129003 x129004 x129005 x129006 x129007 x129008 x129009 x129010 x129011) else (clepsydraref15_Choose.l0 k x1 x5 x8 x9 (wrap64 (x10 + 1)) x129000 x129001 x129002 x129003 x129004 x129005 x129006 x129007 x129008 x129009 x129010 x129011))) else (none)) else (none))) else (clepsydraref15_Choose.l0 k x1 x5 x8 x9 (wrap64 (x10 + 1)) x129000 x129001 x129002 x129003 x129004 x129005 x129006 x129007 x129008 x129009 x129010 x129011))) else (none)) else (none)) else (some x5)
def clepsydraref15_Choose.f (k : Nat) (a0_0 : Int) (a0_1 : Int) (a0_2 : Int) (a0_3 : Int) (a0_4 : Int) (a0_5 : Int) (a0_6 : Int) (a0_7 : Int) (a0_8 : Int) (a0_9 : Int) (a0_10 : Int) (a0_11 : Int) (l1 : List (S38)) : Option (Int) := clepsydraref15_Choose.l0 k l1 (-1) l1 (l1.length : Int) 0 a0_0 a0_1 a0_2 a0_3 a0_4 a0_5 a0_6 a0_7 a0_8 a0_9 a0_10 a0_11
theorem clepsydraref15_Choose.mono_l : ∀ k, (∀ y0 y1 y2 y3 y4 y5 y6 y7 y8 y9 y10 y11 y12 y13 y14 y15 y16, LeO (clepsydraref15_Choose.l0 k y0 y1 y2 y3 y4 y5 y6 y7 y8 y9 y10 y11 y12 y13 y14 y15 y16) (clepsydraref15_Choose.l0 (k + 1) y0 y1 y2 y3 y4 y5 y6 y7 y8 y9 y10 y11 y12 y13 y14 y15 y16))
  | 0 => fun _ _ _ _ _ _ _ _ _ _ _ _ _ _ _ _ _ r h => by simp [clepsydraref15_Choose.l0] at h
  | k + 1 => by
    have ih0 := clepsydraref15_Choose.mono_l k
    · intro y0 y1 y2 y3 y4 y5 y6 y7 y8 y9 y10 y11 y12 y13 y14 y15 y16
      unfold clepsydraref15_Choose.l0
      repeat' first
      | (with_reducible exact ih0 _ _ _ _ _ _ _ _ _ _ _ _ _ _ _ _ _)
      | (with_reducible exact LeO.refl _)
      | (with_reducible exact LeO.none _)
      | (with_reducible refine LeO.ite ?_ ?_)
      | (with_reducible refine LeO.bind ?_ (fun _ => ?_))
      | exact ih0 _ _ _ _ _ _ _ _ _ _ _ _ _ _ _ _ _
      | exact LeO.none _
      | refine LeO.ite ?_ ?_
      | refine LeO.bind ?_ (fun _ => ?_)
theorem clepsydraref15_Choose.mono : ∀ a0 a1 a2 a3 a4 a5 a6 a7 a8 a9 a10 a11 a12 k, LeO (clepsydraref15_Choose.f k a0 a1 a2 a3 a4 a5 a6 a7 a8 a9 a10 a11 a12) (clepsydraref15_Choose.f (k + 1) a0 a1 a2 a3 a4 a5 a6 a7 a8 a9 a10 a11 a12) := by
  intro a0 a1 a2 a3 a4 a5 a6 a7 a8 a9 a10 a11 a12 k
  have ih0 := clepsydraref15_Choose.mono_l k
  unfold clepsydraref15_Choose.f
  repeat' first
      | (with_reducible exact ih0 _ _ _ _ _ _ _ _ _ _ _ _ _ _ _ _ _)
      | (with_reducible exact LeO.refl _)
      | (with_reducible exact LeO.none _)
      | (with_reducible refine LeO.ite ?_ ?_)
      | (with_reducible refine LeO.bind ?_ (fun _ => ?_))
      | exact ih0 _ _ _ _ _ _ _ _ _ _ _ _ _ _ _ _ _
      | exact LeO.none _
      | refine LeO.ite ?_ ?_
      | refine LeO.bind ?_ (fun _ => ?_)
def clepsydraref15_Choose.T5 : Bool × List (List Nat × List Nat) := (true, [([], []), ([], []), ([0, 1], [0, 1]), ([2, 2], [2]), ([3], [3]), ([4, 3], [3, 4]), ([5, 3, 3], [3, 5]), ([6], [6]), ([6], [6]), ([6], [6]), ([8, 9, 6], [6, 8, 9]), ([10, 6], [6, 10]), ([7, 11, 6, 6], [6, 7, 11]), ([6, 12, 3], [3, 6, 12]), ([3, 13], [3, 13])])
def clepsydraref15_Choose.B5 : List Nat := [0, 0, 3, 7, 15, 31, 63, 127, 127, 127, 895, 1919, 4095, 8191, 16383]
theorem clepsydraref15_Choose.tab5 : rtab .any (opsOf Try.f20 5) = clepsydraref15_Choose.T5 := by kernel_rfl
theorem clepsydraref15_Choose.bits5 : waitsOk clepsydraref15_Choose.T5.2 clepsydraref15_Choose.B5 = true := by kernel_rfl
set_option maxHeartbeats 8000000 in
set_option maxRecDepth 100000 in
theorem clepsydraref15_Choose.calls (k : Nat) (a0_0 : Int) (a0_1 : Int) (a0_2 : Int) (a0_3 : Int) (a0_4 : Int) (a0_5 : Int) (a0_6 : Int) (a0_7 : Int) (a0_8 : Int) (a0_9 : Int) (a0_10 : Int) (a0_11 : Int) (A1 : Option Addr) (c1 : Nat) (l1 : List (S38)) (r : Int) (w : World) (hr1 : Kd.C k38 w A1 l1.length l1) (hc1 : l1.length ≤ c1) (h : clepsydraref15_Choose.f k a0_0 a0_1 a0_2 a0_3 a0_4 a0_5 a0_6 a0_7 a0_8 a0_9 a0_10 a0_11 l1 = some r) :
    Calls Try.prog 20 #[.agg #[.int .i64 a0_0, .int .i64 a0_1, .int .i64 a0_2, .int .i64 a0_3, .int .i64 a0_4, .int .i64 a0_5, .int .i64 a0_6, .int .i64 a0_7, .int .i64 a0_8, .int .i64 a0_9, .int .i64 a0_10, .int .i64 a0_11], .slice A1 l1.length c1] w fun e w' => e = .returned (.int .i64 r) ∧ Below w.heap.size w w' := by
  have hu23 := Try.underlying23
  have hu38 := Try.underlying38
  have HR1 := Aside0.mk hr1
  have HC1 := Aside0.mk hc1
  clear hr1 hc1
  have HB := Aside0.mk (Below.refl w.heap.size w)
  have H : (clepsydraref15_Choose.l0 k l1 (-1) l1 (l1.length : Int) 0 a0_0 a0_1 a0_2 a0_3 a0_4 a0_5 a0_6 a0_7 a0_8 a0_9 a0_10 a0_11) = some r := h
  clear h
  have H' := Aside0.mk H
  clear H
  go_enter Try.func20, Try.ntmps20
  go_wp2_with (first | ((with_reducible refine gate_dst (N := 2) rfl ?_); refine box_event ?hg (N := 2) ?hd (cs := #[.int .i64 a0_0, .int .i64 a0_1, .int .i64 a0_2, .int .i64 a0_3, .int .i64 a0_4, .int .i64 a0_5, .int .i64 a0_6, .int .i64 a0_7, .int .i64 a0_8, .int .i64 a0_9, .int .i64 a0_10, .int .i64 a0_11]) (t := 23) ?hr ?_; (case hd => rfl); (case hg => rfl); (case hr => first | (go_simp; done) | (go_simp; rfl)); intro gb128 hg w3 hbox hb; have n0_ := Aside0.mk (below_step (by repeat (first | (with_reducible first | exact HB.out | apply below_alloc | apply pw_below_drewN | apply below_drew1) | exact HB.out)) hb); have n1_ := Aside0.mk (hbox); have n2_ := Aside0.mk ((by rw [hg]; exact (below_size (by repeat (first | (with_reducible first | exact HB.out | apply below_alloc | apply pw_below_drewN | apply below_drew1) | exact HB.out))) : w.heap.size ≤ gb128)); have n3_ := Aside0.mk ((by rw [hg]; exact (below_size (by repeat (first | (with_reducible first | exact HB.out | apply below_alloc | apply pw_below_drewN | apply below_drew1) | exact HB.out))) : w.heap.size ≤ gb128)); clear HB; have HB := n0_; have BK128 := n1_; have GW128 := n2_; have GE128 := n3_; clear n0_ n1_ n2_ n3_; clear hb hbox hg))
  go_loopg [5, 10] k (fun kq v5 v10 w' => ∃ (x5_1 : Int) (x10_1 : Int), v5 = .int .i64 x5_1 ∧ v10 = .int .i64 x10_1 ∧ Aside0 (clepsydraref15_Choose.l0 kq l1 x5_1 l1 (l1.length : Int) x10_1 a0_0 a0_1 a0_2 a0_3 a0_4 a0_5 a0_6 a0_7 a0_8 a0_9 a0_10 a0_11 = some r) ∧ Aside0 (kq ≤ k) ∧ Aside0 (w'.heap[gb128]? = some (.cells #[.int .i64 a0_0, .int .i64 a0_1, .int .i64 a0_2, .int .i64 a0_3, .int .i64 a0_4, .int .i64 a0_5, .int .i64 a0_6, .int .i64 a0_7, .int .i64 a0_8, .int .i64 a0_9, .int .i64 a0_10, .int .i64 a0_11] 23 (0, 0))) ∧ Aside0 (Below w.heap.size w w'))
  case atStart => exact ⟨((-1)), (0), (by first | rfl | (simp; done) | (simp [*]; done)), (by first | rfl | (simp; done) | (simp [*]; done)), H', ⟨Nat.le_refl _⟩, ⟨by (with_reducible repeat (first | refine blk_drewN ?_ _ | refine blk_drew ?_ | refine blk_alloc ?_ _)); exact BK128.out⟩, ⟨by repeat (first | (with_reducible first | exact HB.out | apply below_alloc | apply pw_below_drewN | apply below_drew1 | refine below_set ?_ GE128.out) | exact HB.out)⟩⟩
  case round =>
    clear H'
    try clear c1
    try clear c2
    try clear p2
    obtain ⟨x5_1, x10_1, rfl, rfl, HA, HK1, BK128, HB⟩ := hrel
    cases gk with
    | zero => exact absurd HA.out (by simp [clepsydraref15_Choose.l0])
    | succ k1 =>
      have H := HA.out
      clear HA
      simp only [clepsydraref15_Choose.l0] at H
      by_cases c4 : x10_1 < (l1.length : Int)
      · rw [if_pos c4] at H
        have c4b0 : decide (x10_1 < (l1.length : Int)) = true := decide_eq_true c4
        clear c4
        by_cases c5 : 0 ≤ x10_1
        · rw [if_pos c5] at H
          have c5b0 : decide (0 ≤ x10_1) = true := decide_eq_true c5
          clear c5
          by_cases c6 : x10_1 < (l1.length : Int)
          · rw [if_pos c6] at H
            have c6b0 : decide (x10_1 < (l1.length : Int)) = true := decide_eq_true c6
            clear c6
            replace H := Option.bind_eq_some_iff.mp H
            obtain ⟨t131, A70, H⟩ := H
            replace H : (if t131 = true then (if x5_1 < 0 then (clepsydraref15_Choose.l0 k1 l1 x10_1 l1 (l1.length : Int) (wrap64 (x10_1 + 1)) a0_0 a0_1 a0_2 a0_3 a0_4 a0_5 a0_6 a0_7 a0_8 a0_9 a0_10 a0_11) else (if 0 ≤ x5_1 then (if x5_1 < (l1.length : Int) then ((clepsydraref15_before.f ((rd_T38 l1 x10_1).f0) ((rd_T38 l1 x10_1).f1) ((rd_T38 l1 x10_1).f2.f0) ((rd_T38 l1 x10_1).f2.f1) ((rd_T38 l1 x10_1).f3) ((rd_T38 l1 x10_1).f4) ((rd_T38 l1 x10_1).f5) ((rd_T38 l1 x10_1).f6) ((rd_T38 l1 x10_1).f7.f0) ((rd_T38 l1 x10_1).f7.f1) ((rd_T38 l1 x10_1).f8) ((rd_T38 l1 x10_1).f9.f0) ((rd_T38 l1 x10_1).f9.f1) ((rd_T38 l1 x10_1).f10) ((rd_T38 l1 x5_1).f0) ((rd_T38 l1 x5_1).f1) ((rd_T38 l1 x5_1).f2.f0) ((rd_T38 l1 x5_1).f2.f1) ((rd_T38 l1 x5_1).f3) ((rd_T38 l1 x5_1).f4) ((rd_T38 l1 x5_1).f5) ((rd_T38 l1 x5_1).f6) ((rd_T38 l1 x5_1).f7.f0) ((rd_T38 l1 x5_1).f7.f1) ((rd_T38 l1 x5_1).f8) ((rd_T38 l1 x5_1).f9.f0) ((rd_T38 l1 x5_1).f9.f1) ((rd_T38 l1 x5_1).f10)).bind fun t133 => (if t133 = true then (clepsydraref15_Choose.l0 k1 l1 x10_1 l1 (l1.length : Int) (wrap64 (x10_1 + 1)) a0_0 a0_1 a0_2 a0_3 a0_4 a0_5 a0_6 a0_7 a0_8 a0_9 a0_10 a0_11) else (clepsydraref15_Choose.l0 k1 l1 x5_1 l1 (l1.length : Int) (wrap64 (x10_1 + 1)) a0_0 a0_1 a0_2 a0_3 a0_4 a0_5 a0_6 a0_7 a0_8 a0_9 a0_10 a0_11))) else (none)) else (none))) else (clepsydraref15_Choose.l0 k1 l1 x5_1 l1 (l1.length : Int) (wrap64 (x10_1 + 1)) a0_0 a0_1 a0_2 a0_3 a0_4 a0_5 a0_6 a0_7 a0_8 a0_9 a0_10 a0_11)) = some r := H
            have A7 := Aside0.mk A70
            clear A70
            by_cases c8 : t131 = true
            · subst c8
              have H1 : (if x5_1 < 0 then (clepsydraref15_Choose.l0 k1 l1 x10_1 l1 (l1.length : Int) (wrap64 (x10_1 + 1)) a0_0 a0_1 a0_2 a0_3 a0_4 a0_5 a0_6 a0_7 a0_8 a0_9 a0_10 a0_11) else (if 0 ≤ x5_1 then (if x5_1 < (l1.length : Int) then ((clepsydraref15_before.f ((rd_T38 l1 x10_1).f0) ((rd_T38 l1 x10_1).f1) ((rd_T38 l1 x10_1).f2.f0) ((rd_T38 l1 x10_1).f2.f1) ((rd_T38 l1 x10_1).f3) ((rd_T38 l1 x10_1).f4) ((rd_T38 l1 x10_1).f5) ((rd_T38 l1 x10_1).f6) ((rd_T38 l1 x10_1).f7.f0) ((rd_T38 l1 x10_1).f7.f1) ((rd_T38 l1 x10_1).f8) ((rd_T38 l1 x10_1).f9.f0) ((rd_T38 l1 x10_1).f9.f1) ((rd_T38 l1 x10_1).f10) ((rd_T38 l1 x5_1).f0) ((rd_T38 l1 x5_1).f1) ((rd_T38 l1 x5_1).f2.f0) ((rd_T38 l1 x5_1).f2.f1) ((rd_T38 l1 x5_1).f3) ((rd_T38 l1 x5_1).f4) ((rd_T38 l1 x5_1).f5) ((rd_T38 l1 x5_1).f6) ((rd_T38 l1 x5_1).f7.f0) ((rd_T38 l1 x5_1).f7.f1) ((rd_T38 l1 x5_1).f8) ((rd_T38 l1 x5_1).f9.f0) ((rd_T38 l1 x5_1).f9.f1) ((rd_T38 l1 x5_1).f10)).bind fun t133 => (if t133 = true then (clepsydraref15_Choose.l0 k1 l1 x10_1 l1 (l1.length : Int) (wrap64 (x10_1 + 1)) a0_0 a0_1 a0_2 a0_3 a0_4 a0_5 a0_6 a0_7 a0_8 a0_9 a0_10 a0_11) else (clepsydraref15_Choose.l0 k1 l1 x5_1 l1 (l1.length : Int) (wrap64 (x10_1 + 1)) a0_0 a0_1 a0_2 a0_3 a0_4 a0_5 a0_6 a0_7 a0_8 a0_9 a0_10 a0_11))) else (none)) else (none))) = some r := by rw [if_pos rfl] at H; exact H
              clear H
              have H := H1
              clear H1
              by_cases c9 : x5_1 < 0
              · rw [if_pos c9] at H
                have c9b0 : decide (x5_1 < 0) = true := decide_eq_true c9
                clear c9
                have H' := Aside0.mk H
                clear H
                have p129 : 0 ≤ (x10_1 : Int) := of_decide_eq_true (by first | (with_reducible assumption) | assumption)
                have q129 : x10_1 < (l1.length : Int) := of_decide_eq_true (by first | (with_reducible assumption) | assumption)
                obtain ⟨ad129, A129_13, c129_13, e129, hx129_0, hx129_1, hx129_2, hx129_3, hx129_4, hx129_5, hx129_6, hx129_7, hx129_8, hx129_9, hx129_10, hx129_11, hx129_12, hx129_13, hl129_13, hi129_13⟩ := at_T38 HR1.out x10_1 p129 q129
                cases e129
                replace hx129_0 := (HB.out.cell (World.block_lt_of_cell? w _ hx129_0)).trans hx129_0
                replace hx129_1 := (HB.out.cell (World.block_lt_of_cell? w _ hx129_1)).trans hx129_1
                replace hx129_2 := (HB.out.cell (World.block_lt_of_cell? w _ hx129_2)).trans hx129_2
                replace hx129_3 := (HB.out.cell (World.block_lt_of_cell? w _ hx129_3)).trans hx129_3
                replace hx129_4 := (HB.out.cell (World.block_lt_of_cell? w _ hx129_4)).trans hx129_4
                replace hx129_5 := (HB.out.cell (World.block_lt_of_cell? w _ hx129_5)).trans hx129_5
                replace hx129_6 := (HB.out.cell (World.block_lt_of_cell? w _ hx129_6)).trans hx129_6
                replace hx129_7 := (HB.out.cell (World.block_lt_of_cell? w _ hx129_7)).trans hx129_7
                replace hx129_8 := (HB.out.cell (World.block_lt_of_cell? w _ hx129_8)).trans hx129_8
                replace hx129_9 := (HB.out.cell (World.block_lt_of_cell? w _ hx129_9)).trans hx129_9
                replace hx129_10 := (HB.out.cell (World.block_lt_of_cell? w _ hx129_10)).trans hx129_10
                replace hx129_11 := (HB.out.cell (World.block_lt_of_cell? w _ hx129_11)).trans hx129_11
                replace hx129_12 := (HB.out.cell (World.block_lt_of_cell? w _ hx129_12)).trans hx129_12
                replace hx129_13 := (HB.out.cell (World.block_lt_of_cell? w _ hx129_13)).trans hx129_13
                have HR129_13 := Aside0.mk hi129_13
                have HC129_13 := Aside0.mk hl129_13
                clear hi129_13 hl129_13
                replace p129 := eq_true p129
                replace q129 := eq_true q129
                try go_wp2_with (first | ((with_reducible refine gate_dst (N := 7) rfl ?_); refine box_event ?hg (N := 7) ?hd (cs := #[.int .i64 0, .int .i64 0, .int .i64 0, .int .i64 0, .int .i64 0, .int .i64 0, .bool false, .bool false, .int .i64 0, .int .i64 0, .int .i64 0, .int .i64 0, .int .i64 0, .slice none 0 0]) (t := 38) ?hr ?_; (case hd => rfl); (case hg => rfl); (case hr => first | (go_simp; done) | (go_simp; rfl)); intro gb130 hg w10 hbox hb; have n0_ := Aside0.mk (blk_below (g := gb128) (o := .cells #[.int .i64 a0_0, .int .i64 a0_1, .int .i64 a0_2, .int .i64 a0_3, .int .i64 a0_4, .int .i64 a0_5, .int .i64 a0_6, .int .i64 a0_7, .int .i64 a0_8, .int .i64 a0_9, .int .i64 a0_10, .int .i64 a0_11] 23 (0, 0)) (by (with_reducible repeat (first | refine blk_drewN ?_ _ | refine blk_drew ?_ | refine blk_alloc ?_ _)); exact BK128.out) hb); have n1_ := Aside0.mk (below_step (by repeat (first | (with_reducible first | exact HB.out | apply below_alloc | apply pw_below_drewN | apply below_drew1 | refine below_set ?_ GE128.out) | exact HB.out)) hb); have n2_ := Aside0.mk (hbox); have n3_ := Aside0.mk ((by rw [hg]; exact (below_size (by repeat (first | (with_reducible first | exact HB.out | apply below_alloc | apply pw_below_drewN | apply below_drew1 | refine below_set ?_ GE128.out) | exact HB.out))) : w.heap.size ≤ gb130)); have n4_ := Aside0.mk ((by rw [hg]; exact (below_size (by repeat (first | (with_reducible first | exact HB.out | apply below_alloc | apply pw_below_drewN | apply below_drew1 | refine below_set ?_ GE128.out) | exact HB.out))) : w.heap.size ≤ gb130)); have n5_ := Aside0.mk ((by rw [hg]; exact Nat.ne_of_lt (blk_lt (g := gb128) (o := .cells #[.int .i64 a0_0, .int .i64 a0_1, .int .i64 a0_2, .int .i64 a0_3, .int .i64 a0_4, .int .i64 a0_5, .int .i64 a0_6, .int .i64 a0_7, .int .i64 a0_8, .int .i64 a0_9, .int .i64 a0_10, .int .i64 a0_11] 23 (0, 0)) (by (with_reducible repeat (first | refine blk_drewN ?_ _ | refine blk_drew ?_ | refine blk_alloc ?_ _)); exact BK128.out)) : gb128 ≠ gb130)); have n6_ := Aside0.mk ((by rw [hg]; exact Nat.ne_of_gt (blk_lt (g := gb128) (o := .cells #[.int .i64 a0_0, .int .i64 a0_1, .int .i64 a0_2, .int .i64 a0_3, .int .i64 a0_4, .int .i64 a0_5, .int .i64 a0_6, .int .i64 a0_7, .int .i64 a0_8, .int .i64 a0_9, .int .i64 a0_10, .int .i64 a0_11] 23 (0, 0)) (by (with_reducible repeat (first | refine blk_drewN ?_ _ | refine blk_drew ?_ | refine blk_alloc ?_ _)); exact BK128.out)) : gb130 ≠ gb128)); clear BK128; clear HB; have BK128 := n0_; have HB := n1_; have BK130 := n2_; have GW130 := n3_; have GE130 := n4_; have NB128_130 := n5_; have NB130_128 := n6_; clear n0_ n1_ n2_ n3_ n4_ n5_ n6_; clear hb hbox hg; have hnb11 := NB130_128.out; have hnc11 := NB128_130.out; have hcz12_0 : w10.cell? ⟨gb130, 0, none⟩ = some (.int .i64 0) := (blk_cell BK130.out 0).trans rfl; have hcz12_1 : w10.cell? ⟨gb130, 1, none⟩ = some (.int .i64 0) := (blk_cell BK130.out 1).trans rfl; have hcz12_2 : w10.cell? ⟨gb130, 2, none⟩ = some (.int .i64 0) := (blk_cell BK130.out 2).trans rfl; have hcz12_3 : w10.cell? ⟨gb130, 3, none⟩ = some (.int .i64 0) := (blk_cell BK130.out 3).trans rfl; have hcz12_4 : w10.cell? ⟨gb130, 4, none⟩ = some (.int .i64 0) := (blk_cell BK130.out 4).trans rfl; have hcz12_5 : w10.cell? ⟨gb130, 5, none⟩ = some (.int .i64 0) := (blk_cell BK130.out 5).trans rfl; have hcz12_6 : w10.cell? ⟨gb130, 6, none⟩ = some (.bool false) := (blk_cell BK130.out 6).trans rfl; have hcz12_7 : w10.cell? ⟨gb130, 7, none⟩ = some (.bool false) := (blk_cell BK130.out 7).trans rfl; have hcz12_8 : w10.cell? ⟨gb130, 8, none⟩ = some (.int .i64 0) := (blk_cell BK130.out 8).trans rfl; have hcz12_9 : w10.cell? ⟨gb130, 9, none⟩ = some (.int .i64 0) := (blk_cell BK130.out 9).trans rfl; have hcz12_10 : w10.cell? ⟨gb130, 10, none⟩ = some (.int .i64 0) := (blk_cell BK130.out 10).trans rfl; have hcz12_11 : w10.cell? ⟨gb130, 11, none⟩ = some (.int .i64 0) := (blk_cell BK130.out 11).trans rfl; have hcz12_12 : w10.cell? ⟨gb130, 12, none⟩ = some (.int .i64 0) := (blk_cell BK130.out 12).trans rfl; have hcz12_13 : w10.cell? ⟨gb130, 13, none⟩ = some (.slice none 0 0) := (blk_cell BK130.out 13).trans rfl; have hfz12_0 := blk_frozen BK130.out 0; have hfz12_1 := blk_frozen BK130.out 1; have hfz12_2 := blk_frozen BK130.out 2; have hfz12_3 := blk_frozen BK130.out 3; have hfz12_4 := blk_frozen BK130.out 4; have hfz12_5 := blk_frozen BK130.out 5; have hfz12_6 := blk_frozen BK130.out 6; have hfz12_7 := blk_frozen BK130.out 7; have hfz12_8 := blk_frozen BK130.out 8; have hfz12_9 := blk_frozen BK130.out 9; have hfz12_10 := blk_frozen BK130.out 10; have hfz12_11 := blk_frozen BK130.out 11; have hfz12_12 := blk_frozen BK130.out 12; have hfz12_13 := blk_frozen BK130.out 13))
                have n0_ : Aside0 (((((((((((((((w10.setCell ⟨gb130, 0, none⟩ (.int .i64 ((rd_T38 l1 x10_1).f0))).setCell ⟨gb130, 1, none⟩ (.int .i64 ((rd_T38 l1 x10_1).f1))).setCell ⟨gb130, 2, none⟩ (.int .i64 ((rd_T38 l1 x10_1).f2.f0))).setCell ⟨gb130, 3, none⟩ (.int .i64 ((rd_T38 l1 x10_1).f2.f1))).setCell ⟨gb130, 4, none⟩ (.int .i64 ((rd_T38 l1 x10_1).f3))).setCell ⟨gb130, 5, none⟩ (.int .i64 ((rd_T38 l1 x10_1).f4))).setCell ⟨gb130, 6, none⟩ (.bool ((rd_T38 l1 x10_1).f5))).setCell ⟨gb130, 7, none⟩ (.bool ((rd_T38 l1 x10_1).f6))).setCell ⟨gb130, 8, none⟩ (.int .i64 ((rd_T38 l1 x10_1).f7.f0))).setCell ⟨gb130, 9, none⟩ (.int .i64 ((rd_T38 l1 x10_1).f7.f1))).setCell ⟨gb130, 10, none⟩ (.int .i64 ((rd_T38 l1 x10_1).f8))).setCell ⟨gb130, 11, none⟩ (.int .i64 ((rd_T38 l1 x10_1).f9.f0))).setCell ⟨gb130, 12, none⟩ (.int .i64 ((rd_T38 l1 x10_1).f9.f1))).setCell ⟨gb130, 13, none⟩ (.slice A129_13 ((rd_T38 l1 x10_1).f10).length c129_13)).heap[gb128]? = some (.cells #[.int .i64 a0_0, .int .i64 a0_1, .int .i64 a0_2, .int .i64 a0_3, .int .i64 a0_4, .int .i64 a0_5, .int .i64 a0_6, .int .i64 a0_7, .int .i64 a0_8, .int .i64 a0_9, .int .i64 a0_10, .int .i64 a0_11] 23 (0, 0))) := ⟨by (with_reducible repeat (first | refine blk_drewN ?_ _ | refine blk_drew ?_ | refine blk_alloc ?_ _)); refine blk_far ?_ NB128_130.out _; (with_reducible repeat (first | refine blk_drewN ?_ _ | refine blk_drew ?_ | refine blk_alloc ?_ _)); refine blk_far ?_ NB128_130.out _; (with_reducible repeat (first | refine blk_drewN ?_ _ | refine blk_drew ?_ | refine blk_alloc ?_ _)); refine blk_far ?_ NB128_130.out _; (with_reducible repeat (first | refine blk_drewN ?_ _ | refine blk_drew ?_ | refine blk_alloc ?_ _)); refine blk_far ?_ NB128_130.out _; (with_reducible repeat (first | refine blk_drewN ?_ _ | refine blk_drew ?_ | refine blk_alloc ?_ _)); refine blk_far ?_ NB128_130.out _; (with_reducible repeat (first | refine blk_drewN ?_ _ | refine blk_drew ?_ | refine blk_alloc ?_ _)); refine blk_far ?_ NB128_130.out _; (with_reducible repeat (first | refine blk_drewN ?_ _ | refine blk_drew ?_ | refine blk_alloc ?_ _)); refine blk_far ?_ NB128_130.out _; (with_reducible repeat (first | refine blk_drewN ?_ _ | refine blk_drew ?_ | refine blk_alloc ?_ _)); refine blk_far ?_ NB128_130.out _; (with_reducible repeat (first | refine blk_drewN ?_ _ | refine blk_drew ?_ | refine blk_alloc ?_ _)); refine blk_far ?_ NB128_130.out _; (with_reducible repeat (first | refine blk_drewN ?_ _ | refine blk_drew ?_ | refine blk_alloc ?_ _)); refine blk_far ?_ NB128_130.out _; (with_reducible repeat (first | refine blk_drewN ?_ _ | refine blk_drew ?_ | refine blk_alloc ?_ _)); refine blk_far ?_ NB128_130.out _; (with_reducible repeat (first | refine blk_drewN ?_ _ | refine blk_drew ?_ | refine blk_alloc ?_ _)); refine blk_far ?_ NB128_130.out _; (with_reducible repeat (first | refine blk_drewN ?_ _ | refine blk_drew ?_ | refine blk_alloc ?_ _)); refine blk_far ?_ NB128_130.out _; (with_reducible repeat (first | refine blk_drewN ?_ _ | refine blk_drew ?_ | refine blk_alloc ?_ _)); refine blk_far ?_ NB128_130.out _; (with_reducible repeat (first | refine blk_drewN ?_ _ | refine blk_drew ?_ | refine blk_alloc ?_ _)); exact BK128.out⟩
                have n1_ : Aside0 (((((((((((((((w10.setCell ⟨gb130, 0, none⟩ (.int .i64 ((rd_T38 l1 x10_1).f0))).setCell ⟨gb130, 1, none⟩ (.int .i64 ((rd_T38 l1 x10_1).f1))).setCell ⟨gb130, 2, none⟩ (.int .i64 ((rd_T38 l1 x10_1).f2.f0))).setCell ⟨gb130, 3, none⟩ (.int .i64 ((rd_T38 l1 x10_1).f2.f1))).setCell ⟨gb130, 4, none⟩ (.int .i64 ((rd_T38 l1 x10_1).f3))).setCell ⟨gb130, 5, none⟩ (.int .i64 ((rd_T38 l1 x10_1).f4))).setCell ⟨gb130, 6, none⟩ (.bool ((rd_T38 l1 x10_1).f5))).setCell ⟨gb130, 7, none⟩ (.bool ((rd_T38 l1 x10_1).f6))).setCell ⟨gb130, 8, none⟩ (.int .i64 ((rd_T38 l1 x10_1).f7.f0))).setCell ⟨gb130, 9, none⟩ (.int .i64 ((rd_T38 l1 x10_1).f7.f1))).setCell ⟨gb130, 10, none⟩ (.int .i64 ((rd_T38 l1 x10_1).f8))).setCell ⟨gb130, 11, none⟩ (.int .i64 ((rd_T38 l1 x10_1).f9.f0))).setCell ⟨gb130, 12, none⟩ (.int .i64 ((rd_T38 l1 x10_1).f9.f1))).setCell ⟨gb130, 13, none⟩ (.slice A129_13 ((rd_T38 l1 x10_1).f10).length c129_13)).heap[gb130]? = some (.cells #[.int .i64 ((rd_T38 l1 x10_1).f0), .int .i64 ((rd_T38 l1 x10_1).f1), .int .i64 ((rd_T38 l1 x10_1).f2.f0), .int .i64 ((rd_T38 l1 x10_1).f2.f1), .int .i64 ((rd_T38 l1 x10_1).f3), .int .i64 ((rd_T38 l1 x10_1).f4), .bool ((rd_T38 l1 x10_1).f5), .bool ((rd_T38 l1 x10_1).f6), .int .i64 ((rd_T38 l1 x10_1).f7.f0), .int .i64 ((rd_T38 l1 x10_1).f7.f1), .int .i64 ((rd_T38 l1 x10_1).f8), .int .i64 ((rd_T38 l1 x10_1).f9.f0), .int .i64 ((rd_T38 l1 x10_1).f9.f1), .slice A129_13 ((rd_T38 l1 x10_1).f10).length c129_13] 38 (0, 0))) := ⟨by (with_reducible repeat (first | refine blk_drewN ?_ _ | refine blk_drew ?_ | refine blk_alloc ?_ _)); refine blk_put (cs := #[.int .i64 ((rd_T38 l1 x10_1).f0), .int .i64 ((rd_T38 l1 x10_1).f1), .int .i64 ((rd_T38 l1 x10_1).f2.f0), .int .i64 ((rd_T38 l1 x10_1).f2.f1), .int .i64 ((rd_T38 l1 x10_1).f3), .int .i64 ((rd_T38 l1 x10_1).f4), .bool ((rd_T38 l1 x10_1).f5), .bool ((rd_T38 l1 x10_1).f6), .int .i64 ((rd_T38 l1 x10_1).f7.f0), .int .i64 ((rd_T38 l1 x10_1).f7.f1), .int .i64 ((rd_T38 l1 x10_1).f8), .int .i64 ((rd_T38 l1 x10_1).f9.f0), .int .i64 ((rd_T38 l1 x10_1).f9.f1), .slice none 0 0]) ?_ 13 _ rfl; (with_reducible repeat (first | refine blk_drewN ?_ _ | refine blk_drew ?_ | refine blk_alloc ?_ _)); refine blk_put (cs := #[.int .i64 ((rd_T38 l1 x10_1).f0), .int .i64 ((rd_T38 l1 x10_1).f1), .int .i64 ((rd_T38 l1 x10_1).f2.f0), .int .i64 ((rd_T38 l1 x10_1).f2.f1), .int .i64 ((rd_T38 l1 x10_1).f3), .int .i64 ((rd_T38 l1 x10_1).f4), .bool ((rd_T38 l1 x10_1).f5), .bool ((rd_T38 l1 x10_1).f6), .int .i64 ((rd_T38 l1 x10_1).f7.f0), .int .i64 ((rd_T38 l1 x10_1).f7.f1), .int .i64 ((rd_T38 l1 x10_1).f8), .int .i64 ((rd_T38 l1 x10_1).f9.f0), .int .i64 0, .slice none 0 0]) ?_ 12 _ rfl; (with_reducible repeat (first | refine blk_drewN ?_ _ | refine blk_drew ?_ | refine blk_alloc ?_ _)); refine blk_put (cs := #[.int .i64 ((rd_T38 l1 x10_1).f0), .int .i64 ((rd_T38 l1 x10_1).f1), .int .i64 ((rd_T38 l1 x10_1).f2.f0), .int .i64 ((rd_T38 l1 x10_1).f2.f1), .int .i64 ((rd_T38 l1 x10_1).f3), .int .i64 ((rd_T38 l1 x10_1).f4), .bool ((rd_T38 l1 x10_1).f5), .bool ((rd_T38 l1 x10_1).f6), .int .i64 ((rd_T38 l1 x10_1).f7.f0), .int .i64 ((rd_T38 l1 x10_1).f7.f1), .int .i64 ((rd_T38 l1 x10_1).f8), .int .i64 0, .int .i64 0, .slice none 0 0]) ?_ 11 _ rfl; (with_reducible repeat (first | refine blk_drewN ?_ _ | refine blk_drew ?_ | refine blk_alloc ?_ _)); refine blk_put (cs := #[.int .i64 ((rd_T38 l1 x10_1).f0), .int .i64 ((rd_T38 l1 x10_1).f1), .int .i64 ((rd_T38 l1 x10_1).f2.f0), .int .i64 ((rd_T38 l1 x10_1).f2.f1), .int .i64 ((rd_T38 l1 x10_1).f3), .int .i64 ((rd_T38 l1 x10_1).f4), .bool ((rd_T38 l1 x10_1).f5), .bool ((rd_T38 l1 x10_1).f6), .int .i64 ((rd_T38 l1 x10_1).f7.f0), .int .i64 ((rd_T38 l1 x10_1).f7.f1), .int .i64 0, .int .i64 0, .int .i64 0, .slice none 0 0]) ?_ 10 _ rfl; (with_reducible repeat (first | refine blk_drewN ?_ _ | refine blk_drew ?_ | refine blk_alloc ?_ _)); refine blk_put (cs := #[.int .i64 ((rd_T38 l1 x10_1).f0), .int .i64 ((rd_T38 l1 x10_1).f1), .int .i64 ((rd_T38 l1 x10_1).f2.f0), .int .i64 ((rd_T38 l1 x10_1).f2.f1), .int .i64 ((rd_T38 l1 x10_1).f3), .int .i64 ((rd_T38 l1 x10_1).f4), .bool ((rd_T38 l1 x10_1).f5), .bool ((rd_T38 l1 x10_1).f6), .int .i64 ((rd_T38 l1 x10_1).f7.f0), .int .i64 0, .int .i64 0, .int .i64 0, .int .i64 0, .slice none 0 0]) ?_ 9 _ rfl; (with_reducible repeat (first | refine blk_drewN ?_ _ | refine blk_drew ?_ | refine blk_alloc ?_ _)); refine blk_put (cs := #[.int .i64 ((rd_T38 l1 x10_1).f0), .int .i64 ((rd_T38 l1 x10_1).f1), .int .i64 ((rd_T38 l1 x10_1).f2.f0), .int .i64 ((rd_T38 l1 x10_1).f2.f1), .int .i64 ((rd_T38 l1 x10_1).f3), .int .i64 ((rd_T38 l1 x10_1).f4), .bool ((rd_T38 l1 x10_1).f5), .bool ((rd_T38 l1 x10_1).f6), .int .i64 0, .int .i64 0, .int .i64 0, .int .i64 0, .int .i64 0, .slice none 0 0]) ?_ 8 _ rfl; (with_reducible repeat (first | refine blk_drewN ?_ _ | refine blk_drew ?_ | refine blk_alloc ?_ _)); refine blk_put (cs := #[.int .i64 ((rd_T38 l1 x10_1).f0), .int .i64 ((rd_T38 l1 x10_1).f1), .int .i64 ((rd_T38 l1 x10_1).f2.f0), .int .i64 ((rd_T38 l1 x10_1).f2.f1), .int .i64 ((rd_T38 l1 x10_1).f3), .int .i64 ((rd_T38 l1 x10_1).f4), .bool ((rd_T38 l1 x10_1).f5), .bool false, .int .i64 0, .int .i64 0, .int .i64 0, .int .i64 0, .int .i64 0, .slice none 0 0]) ?_ 7 _ rfl; (with_reducible repeat (first | refine blk_drewN ?_ _ | refine blk_drew ?_ | refine blk_alloc ?_ _)); refine blk_put (cs := #[.int .i64 ((rd_T38 l1 x10_1).f0), .int .i64 ((rd_T38 l1 x10_1).f1), .int .i64 ((rd_T38 l1 x10_1).f2.f0), .int .i64 ((rd_T38 l1 x10_1).f2.f1), .int .i64 ((rd_T38 l1 x10_1).f3), .int .i64 ((rd_T38 l1 x10_1).f4), .bool false, .bool false, .int .i64 0, .int .i64 0, .int .i64 0, .int .i64 0, .int .i64 0, .slice none 0 0]) ?_ 6 _ rfl; (with_reducible repeat (first | refine blk_drewN ?_ _ | refine blk_drew ?_ | refine blk_alloc ?_ _)); refine blk_put (cs := #[.int .i64 ((rd_T38 l1 x10_1).f0), .int .i64 ((rd_T38 l1 x10_1).f1), .int .i64 ((rd_T38 l1 x10_1).f2.f0), .int .i64 ((rd_T38 l1 x10_1).f2.f1), .int .i64 ((rd_T38 l1 x10_1).f3), .int .i64 0, .bool false, .bool false, .int .i64 0, .int .i64 0, .int .i64 0, .int .i64 0, .int .i64 0, .slice none 0 0]) ?_ 5 _ rfl; (with_reducible repeat (first | refine blk_drewN ?_ _ | refine blk_drew ?_ | refine blk_alloc ?_ _)); refine blk_put (cs := #[.int .i64 ((rd_T38 l1 x10_1).f0), .int .i64 ((rd_T38 l1 x10_1).f1), .int .i64 ((rd_T38 l1 x10_1).f2.f0), .int .i64 ((rd_T38 l1 x10_1).f2.f1), .int .i64 0, .int .i64 0, .bool false, .bool false, .int .i64 0, .int .i64 0, .int .i64 0, .int .i64 0, .int .i64 0, .slice none 0 0]) ?_ 4 _ rfl; (with_reducible repeat (first | refine blk_drewN ?_ _ | refine blk_drew ?_ | refine blk_alloc ?_ _)); refine blk_put (cs := #[.int .i64 ((rd_T38 l1 x10_1).f0), .int .i64 ((rd_T38 l1 x10_1).f1), .int .i64 ((rd_T38 l1 x10_1).f2.f0), .int .i64 0, .int .i64 0, .int .i64 0, .bool false, .bool false, .int .i64 0, .int .i64 0, .int .i64 0, .int .i64 0, .int .i64 0, .slice none 0 0]) ?_ 3 _ rfl; (with_reducible repeat (first | refine blk_drewN ?_ _ | refine blk_drew ?_ | refine blk_alloc ?_ _)); refine blk_put (cs := #[.int .i64 ((rd_T38 l1 x10_1).f0), .int .i64 ((rd_T38 l1 x10_1).f1), .int .i64 0, .int .i64 0, .int .i64 0, .int .i64 0, .bool false, .bool false, .int .i64 0, .int .i64 0, .int .i64 0, .int .i64 0, .int .i64 0, .slice none 0 0]) ?_ 2 _ rfl; (with_reducible repeat (first | refine blk_drewN ?_ _ | refine blk_drew ?_ | refine blk_alloc ?_ _)); refine blk_put (cs := #[.int .i64 ((rd_T38 l1 x10_1).f0), .int .i64 0, .int .i64 0, .int .i64 0, .int .i64 0, .int .i64 0, .bool false, .bool false, .int .i64 0, .int .i64 0, .int .i64 0, .int .i64 0, .int .i64 0, .slice none 0 0]) ?_ 1 _ rfl; (with_reducible repeat (first | refine blk_drewN ?_ _ | refine blk_drew ?_ | refine blk_alloc ?_ _)); refine blk_put (cs := #[.int .i64 0, .int .i64 0, .int .i64 0, .int .i64 0, .int .i64 0, .int .i64 0, .bool false, .bool false, .int .i64 0, .int .i64 0, .int .i64 0, .int .i64 0, .int .i64 0, .slice none 0 0]) ?_ 0 _ rfl; (with_reducible repeat (first | refine blk_drewN ?_ _ | refine blk_drew ?_ | refine blk_alloc ?_ _)); exact BK130.out⟩
                have n2_ : Aside0 (Below w.heap.size w ((((((((((((((w10.setCell ⟨gb130, 0, none⟩ (.int .i64 ((rd_T38 l1 x10_1).f0))).setCell ⟨gb130, 1, none⟩ (.int .i64 ((rd_T38 l1 x10_1).f1))).setCell ⟨gb130, 2, none⟩ (.int .i64 ((rd_T38 l1 x10_1).f2.f0))).setCell ⟨gb130, 3, none⟩ (.int .i64 ((rd_T38 l1 x10_1).f2.f1))).setCell ⟨gb130, 4, none⟩ (.int .i64 ((rd_T38 l1 x10_1).f3))).setCell ⟨gb130, 5, none⟩ (.int .i64 ((rd_T38 l1 x10_1).f4))).setCell ⟨gb130, 6, none⟩ (.bool ((rd_T38 l1 x10_1).f5))).setCell ⟨gb130, 7, none⟩ (.bool ((rd_T38 l1 x10_1).f6))).setCell ⟨gb130, 8, none⟩ (.int .i64 ((rd_T38 l1 x10_1).f7.f0))).setCell ⟨gb130, 9, none⟩ (.int .i64 ((rd_T38 l1 x10_1).f7.f1))).setCell ⟨gb130, 10, none⟩ (.int .i64 ((rd_T38 l1 x10_1).f8))).setCell ⟨gb130, 11, none⟩ (.int .i64 ((rd_T38 l1 x10_1).f9.f0))).setCell ⟨gb130, 12, none⟩ (.int .i64 ((rd_T38 l1 x10_1).f9.f1))).setCell ⟨gb130, 13, none⟩ (.slice A129_13 ((rd_T38 l1 x10_1).f10).length c129_13))) := ⟨by repeat (first | (with_reducible first | exact HB.out | apply below_alloc | apply pw_below_drewN | apply below_drew1 | refine below_set ?_ GE128.out | refine below_set ?_ GE130.out) | exact HB.out)⟩
                (try clear BK128)
                (try clear BK130)
                (try clear HB)
                generalize ((((((((((((((w10.setCell ⟨gb130, 0, none⟩ (.int .i64 ((rd_T38 l1 x10_1).f0))).setCell ⟨gb130, 1, none⟩ (.int .i64 ((rd_T38 l1 x10_1).f1))).setCell ⟨gb130, 2, none⟩ (.int .i64 ((rd_T38 l1 x10_1).f2.f0))).setCell ⟨gb130, 3, none⟩ (.int .i64 ((rd_T38 l1 x10_1).f2.f1))).setCell ⟨gb130, 4, none⟩ (.int .i64 ((rd_T38 l1 x10_1).f3))).setCell ⟨gb130, 5, none⟩ (.int .i64 ((rd_T38 l1 x10_1).f4))).setCell ⟨gb130, 6, none⟩ (.bool ((rd_T38 l1 x10_1).f5))).setCell ⟨gb130, 7, none⟩ (.bool ((rd_T38 l1 x10_1).f6))).setCell ⟨gb130, 8, none⟩ (.int .i64 ((rd_T38 l1 x10_1).f7.f0))).setCell ⟨gb130, 9, none⟩ (.int .i64 ((rd_T38 l1 x10_1).f7.f1))).setCell ⟨gb130, 10, none⟩ (.int .i64 ((rd_T38 l1 x10_1).f8))).setCell ⟨gb130, 11, none⟩ (.int .i64 ((rd_T38 l1 x10_1).f9.f0))).setCell ⟨gb130, 12, none⟩ (.int .i64 ((rd_T38 l1 x10_1).f9.f1))).setCell ⟨gb130, 13, none⟩ (.slice A129_13 ((rd_T38 l1 x10_1).f10).length c129_13)) = w13 at n0_ n1_ n2_ ⊢
                have BK128 := n0_
                have BK130 := n1_
                have HB := n2_
                clear n0_ n1_ n2_
                have n0_ := Aside0.mk (blk_drew BK128.out)
                have n1_ := Aside0.mk (blk_drew BK130.out)
                have n2_ := Aside0.mk (below_drew1 HB.out)
                clear BK128
                clear BK130
                clear HB
                have BK128 := n0_
                have BK130 := n1_
                have HB := n2_
                clear n0_ n1_ n2_
                refine start_ (n := 15) (S := fun w' => w'.cell? ⟨gb128, 0, none⟩ = some (.int .i64 a0_0) ∧ w'.cell? ⟨gb128, 1, none⟩ = some (.int .i64 a0_1) ∧ w'.cell? ⟨gb128, 2, none⟩ = some (.int .i64 a0_2) ∧ w'.cell? ⟨gb128, 3, none⟩ = some (.int .i64 a0_3) ∧ w'.cell? ⟨gb128, 4, none⟩ = some (.int .i64 a0_4) ∧ w'.cell? ⟨gb128, 5, none⟩ = some (.int .i64 a0_5) ∧ w'.cell? ⟨gb128, 6, none⟩ = some (.int .i64 a0_6) ∧ w'.cell? ⟨gb128, 7, none⟩ = some (.int .i64 a0_7) ∧ w'.cell? ⟨gb128, 8, none⟩ = some (.int .i64 a0_8) ∧ w'.cell? ⟨gb128, 9, none⟩ = some (.int .i64 a0_9) ∧ w'.cell? ⟨gb128, 10, none⟩ = some (.int .i64 a0_10) ∧ w'.cell? ⟨gb128, 11, none⟩ = some (.int .i64 a0_11) ∧ w'.cell? ⟨gb130, 0, none⟩ = some (.int .i64 ((rd_T38 l1 x10_1).f0)) ∧ w'.cell? ⟨gb130, 1, none⟩ = some (.int .i64 ((rd_T38 l1 x10_1).f1)) ∧ w'.cell? ⟨gb130, 2, none⟩ = some (.int .i64 ((rd_T38 l1 x10_1).f2.f0)) ∧ w'.cell? ⟨gb130, 3, none⟩ = some (.int .i64 ((rd_T38 l1 x10_1).f2.f1)) ∧ w'.cell? ⟨gb130, 4, none⟩ = some (.int .i64 ((rd_T38 l1 x10_1).f3)) ∧ w'.cell? ⟨gb130, 5, none⟩ = some (.int .i64 ((rd_T38 l1 x10_1).f4)) ∧ w'.cell? ⟨gb130, 6, none⟩ = some (.bool ((rd_T38 l1 x10_1).f5)) ∧ w'.cell? ⟨gb130, 7, none⟩ = some (.bool ((rd_T38 l1 x10_1).f6)) ∧ w'.cell? ⟨gb130, 8, none⟩ = some (.int .i64 ((rd_T38 l1 x10_1).f7.f0)) ∧ w'.cell? ⟨gb130, 9, none⟩ = some (.int .i64 ((rd_T38 l1 x10_1).f7.f1)) ∧ w'.cell? ⟨gb130, 10, none⟩ = some (.int .i64 ((rd_T38 l1 x10_1).f8)) ∧ w'.cell? ⟨gb130, 11, none⟩ = some (.int .i64 ((rd_T38 l1 x10_1).f9.f0)) ∧ w'.cell? ⟨gb130, 12, none⟩ = some (.int .i64 ((rd_T38 l1 x10_1).f9.f1)) ∧ w'.cell? ⟨gb130, 13, none⟩ = some (.slice A129_13 ((rd_T38 l1 x10_1).f10).length c129_13)) (ds := []) #[false, false, false, false, false, false, false, false, false, false, false, false, false, false, false] (by kernel_rfl) rfl rfl ⟨(blk_cell BK128.out 0).trans rfl, (blk_cell BK128.out 1).trans rfl, (blk_cell BK128.out 2).trans rfl, (blk_cell BK128.out 3).trans rfl, (blk_cell BK128.out 4).trans rfl, (blk_cell BK128.out 5).trans rfl, (blk_cell BK128.out 6).trans rfl, (blk_cell BK128.out 7).trans rfl, (blk_cell BK128.out 8).trans rfl, (blk_cell BK128.out 9).trans rfl, (blk_cell BK128.out 10).trans rfl, (blk_cell BK128.out 11).trans rfl, (blk_cell BK130.out 0).trans rfl, (blk_cell BK130.out 1).trans rfl, (blk_cell BK130.out 2).trans rfl, (blk_cell BK130.out 3).trans rfl, (blk_cell BK130.out 4).trans rfl, (blk_cell BK130.out 5).trans rfl, (blk_cell BK130.out 6).trans rfl, (blk_cell BK130.out 7).trans rfl, (blk_cell BK130.out 8).trans rfl, (blk_cell BK130.out 9).trans rfl, (blk_cell BK130.out 10).trans rfl, (blk_cell BK130.out 11).trans rfl, (blk_cell BK130.out 12).trans rfl, (blk_cell BK130.out 13).trans rfl⟩ (fun hHeld => ?_); refine with_tabW clepsydraref15_Choose.tab5 clepsydraref15_Choose.bits5 (fun HT_ HW_ => ?_)
                generalize w13.drew = w14 at BK128 BK130 HB hHeld ⊢
                refine take_ (i := 0) (N := some 15) (v := ?_) (a' := ?_) #[true, false, false, false, false, false, false, false, false, false, false, false, false, false, false] rfl rfl (take_ofW HT_.out HW_.out (by kernel_rfl)) (fun _ _ _ h => h) (Or.inl ⟨by rfl, ?_⟩) hHeld ?_ ?_
                rotate_left
                · rintro w' ⟨s0, s1, s2, s3, s4, s5, s6, s7, s8, s9, s10, s11, s12, s13, s14, s15, s16, s17, s18, s19, s20, s21, s22, s23, s24, s25⟩
                  go_simp
                  with_reducible rfl
                rotate_left
                · simp only [Act.put, List.setIfInBounds_toArray, List.set_cons_zero, List.set_cons_succ, i64_w, i32_w]
                  rfl
                refine take_ (i := 1) (N := some 16) (v := ?_) (a' := ?_) #[true, true, false, false, false, false, false, false, false, false, false, false, false, false, false] rfl rfl (take_ofW HT_.out HW_.out (by kernel_rfl)) (fun _ _ _ h => h) (Or.inl ⟨by rfl, ?_⟩) hHeld ?_ ?_
                rotate_left
                · rintro w' ⟨s0, s1, s2, s3, s4, s5, s6, s7, s8, s9, s10, s11, s12, s13, s14, s15, s16, s17, s18, s19, s20, s21, s22, s23, s24, s25⟩
                  go_simp
                  with_reducible rfl
                rotate_left
                · simp only [Act.put, List.setIfInBounds_toArray, List.set_cons_zero, List.set_cons_succ, i64_w, i32_w]
                  rfl
                refine one_ (i := 2) (N := some 17) #[true, true, true, false, false, false, false, false, false, false, false, false, false, false, false] rfl rfl (one_of HT_.out (by kernel_rfl)) (by decide) (fun K hK => ?_)
                refine goes_ Try.func18 (by kernel_rfl) rfl #[.agg #[.int .i64 a0_0, .int .i64 a0_1, .int .i64 a0_2, .int .i64 a0_3, .int .i64 a0_4, .int .i64 a0_5, .int .i64 a0_6, .int .i64 a0_7, .int .i64 a0_8, .int .i64 a0_9, .int .i64 a0_10, .int .i64 a0_11], .agg #[.int .i64 ((rd_T38 l1 x10_1).f0), .int .i64 ((rd_T38 l1 x10_1).f1), .int .i64 ((rd_T38 l1 x10_1).f2.f0), .int .i64 ((rd_T38 l1 x10_1).f2.f1), .int .i64 ((rd_T38 l1 x10_1).f3), .int .i64 ((rd_T38 l1 x10_1).f4), .bool ((rd_T38 l1 x10_1).f5), .bool ((rd_T38 l1 x10_1).f6), .int .i64 ((rd_T38 l1 x10_1).f7.f0), .int .i64 ((rd_T38 l1 x10_1).f7.f1), .int .i64 ((rd_T38 l1 x10_1).f8), .int .i64 ((rd_T38 l1 x10_1).f9.f0), .int .i64 ((rd_T38 l1 x10_1).f9.f1), .slice A129_13 ((rd_T38 l1 x10_1).f10).length c129_13]] (by rfl) rfl rfl (by (try simp only [List.map_toArray, List.map_cons, List.map_nil]); first | done | rfl | (simp only [List.length_drop, List.length_take]; rfl)) ?_
                with_reducible refine (clepsydraref15_Usable.calls a0_0 a0_1 a0_2 a0_3 a0_4 a0_5 a0_6 a0_7 a0_8 a0_9 a0_10 a0_11 ((rd_T38 l1 x10_1).f0) ((rd_T38 l1 x10_1).f1) ((rd_T38 l1 x10_1).f2.f0) ((rd_T38 l1 x10_1).f2.f1) ((rd_T38 l1 x10_1).f3) ((rd_T38 l1 x10_1).f4) ((rd_T38 l1 x10_1).f5) ((rd_T38 l1 x10_1).f6) ((rd_T38 l1 x10_1).f7.f0) ((rd_T38 l1 x10_1).f7.f1) ((rd_T38 l1 x10_1).f8) ((rd_T38 l1 x10_1).f9.f0) ((rd_T38 l1 x10_1).f9.f1) _ _ ((rd_T38 l1 x10_1).f10) true _ ?side1 ?side2 A7.out).mono ?_
                (case side1 => repeat (first | exact (Kd.C_below HR129_13.out HB.out) | (with_reducible refine Kd.C_alloc ?_ _) | (with_reducible refine Kd.C_drewN ?_ _) | (with_reducible refine Kd.C_drew ?_)))
                (case side2 => exact HC129_13.out)
                rintro e w15 ⟨rfl, hb⟩
                refine ⟨_, rfl, ?_⟩
                have n0_ := Aside0.mk (blk_below (g := gb128) (o := .cells #[.int .i64 a0_0, .int .i64 a0_1, .int .i64 a0_2, .int .i64 a0_3, .int .i64 a0_4, .int .i64 a0_5, .int .i64 a0_6, .int .i64 a0_7, .int .i64 a0_8, .int .i64 a0_9, .int .i64 a0_10, .int .i64 a0_11] 23 (0, 0)) (by (with_reducible repeat (first | refine blk_drewN ?_ _ | refine blk_drew ?_ | refine blk_alloc ?_ _)); exact BK128.out) hb)
                have n1_ := Aside0.mk (blk_below (g := gb130) (o := .cells #[.int .i64 ((rd_T38 l1 x10_1).f0), .int .i64 ((rd_T38 l1 x10_1).f1), .int .i64 ((rd_T38 l1 x10_1).f2.f0), .int .i64 ((rd_T38 l1 x10_1).f2.f1), .int .i64 ((rd_T38 l1 x10_1).f3), .int .i64 ((rd_T38 l1 x10_1).f4), .bool ((rd_T38 l1 x10_1).f5), .bool ((rd_T38 l1 x10_1).f6), .int .i64 ((rd_T38 l1 x10_1).f7.f0), .int .i64 ((rd_T38 l1 x10_1).f7.f1), .int .i64 ((rd_T38 l1 x10_1).f8), .int .i64 ((rd_T38 l1 x10_1).f9.f0), .int .i64 ((rd_T38 l1 x10_1).f9.f1), .slice A129_13 ((rd_T38 l1 x10_1).f10).length c129_13] 38 (0, 0)) (by (with_reducible repeat (first | refine blk_drewN ?_ _ | refine blk_drew ?_ | refine blk_alloc ?_ _)); exact BK130.out) hb)
                have n2_ := Aside0.mk (below_step (by repeat (first | (with_reducible first | exact HB.out | apply below_alloc | apply pw_below_drewN | apply below_drew1 | refine below_set ?_ GE128.out | refine below_set ?_ GE130.out) | exact HB.out)) hb)
                clear BK128
                clear BK130
                clear HB
                have BK128 := n0_
                have BK130 := n1_
                have HB := n2_
                clear n0_ n1_ n2_
                (try clear hb)
                (try clear hb2)
                (try clear hk)
                (try clear hi)
                refine hK.out _ _ ⟨(blk_cell BK128.out 0).trans rfl, (blk_cell BK128.out 1).trans rfl, (blk_cell BK128.out 2).trans rfl, (blk_cell BK128.out 3).trans rfl, (blk_cell BK128.out 4).trans rfl, (blk_cell BK128.out 5).trans rfl, (blk_cell BK128.out 6).trans rfl, (blk_cell BK128.out 7).trans rfl, (blk_cell BK128.out 8).trans rfl, (blk_cell BK128.out 9).trans rfl, (blk_cell BK128.out 10).trans rfl, (blk_cell BK128.out 11).trans rfl, (blk_cell BK130.out 0).trans rfl, (blk_cell BK130.out 1).trans rfl, (blk_cell BK130.out 2).trans rfl, (blk_cell BK130.out 3).trans rfl, (blk_cell BK130.out 4).trans rfl, (blk_cell BK130.out 5).trans rfl, (blk_cell BK130.out 6).trans rfl, (blk_cell BK130.out 7).trans rfl, (blk_cell BK130.out 8).trans rfl, (blk_cell BK130.out 9).trans rfl, (blk_cell BK130.out 10).trans rfl, (blk_cell BK130.out 11).trans rfl, (blk_cell BK130.out 12).trans rfl, (blk_cell BK130.out 13).trans rfl⟩ (fun hHeld => ?_)
                clear hK K
                refine norm_ (a' := ?_) ?_ ?_
                rotate_left
                · show Act.put _ (some 17) _ = _
                  simp only [Act.put, List.setIfInBounds_toArray, List.set_cons_zero, List.set_cons_succ, i64_w, i32_w]
                  rfl
                refine pure_ (i := 3) (N := some 18) (v := ?_) (a' := ?_) #[true, true, true, true, false, false, false, false, false, false, false, false, false, false, false] rfl rfl (any_of HT_.out (by kernel_rfl)) (fun _ _ _ h => h) (Or.inl ⟨by rfl, ?_⟩) ?_ ?_
                rotate_left
                · intro w'
                  go_simp
                  with_reducible rfl
                rotate_left
                · simp only [Act.put, List.setIfInBounds_toArray, List.set_cons_zero, List.set_cons_succ, i64_w, i32_w]
                  rfl
                refine pure_ (i := 4) (N := some 19) (v := ?_) (a' := ?_) #[true, true, true, true, true, false, false, false, false, false, false, false, false, false, false] rfl rfl (any_of HT_.out (by kernel_rfl)) (fun _ _ _ h => h) (Or.inl ⟨by rfl, ?_⟩) ?_ ?_
                rotate_left
                · intro w'
                  go_simp
                  with_reducible rfl
                rotate_left
                · simp only [Act.put, List.setIfInBounds_toArray, List.set_cons_zero, List.set_cons_succ, i64_w, i32_w]
                  rfl
                refine pure_ (i := 5) (N := some 20) (v := ?_) (a' := ?_) #[true, true, true, true, true, true, false, false, false, false, false, false, false, false, false] rfl rfl (any_of HT_.out (by kernel_rfl)) (fun _ _ _ h => h) (Or.inl ⟨by rfl, ?_⟩) ?_ ?_
                rotate_left
                · intro w'
                  go_simp
                  with_reducible rfl
                rotate_left
                · simp only [Act.put, List.setIfInBounds_toArray, List.set_cons_zero, List.set_cons_succ, i64_w, i32_w]
                  rfl
                refine pure_ (i := 6) (N := some 21) (v := ?_) (a' := ?_) #[true, true, true, true, true, true, true, false, false, false, false, false, false, false, false] rfl rfl (any_of HT_.out (by kernel_rfl)) (fun _ _ _ h => h) (Or.inl ⟨by rfl, ?_⟩) ?_ ?_
                rotate_left
                · intro w'
                  go_simp
                  with_reducible rfl
                rotate_left
                · simp only [Act.put, List.setIfInBounds_toArray, List.set_cons_zero, List.set_cons_succ, i64_w, i32_w]
                  rfl
                refine pure_ (i := 7) (N := some 22) (v := undef) (a' := ?_) #[true, true, true, true, true, true, true, true, false, false, false, false, false, false, false] rfl rfl (any_of HT_.out (by kernel_rfl)) (fun _ _ _ h => h) (Or.inr ⟨by rfl, rfl⟩) ?_ ?_
                rotate_left
                · simp only [Act.put, List.setIfInBounds_toArray, List.set_cons_zero, List.set_cons_succ, i64_w, i32_w]
                  rfl
                refine pure_ (i := 8) (N := some 23) (v := undef) (a' := ?_) #[true, true, true, true, true, true, true, true, true, false, false, false, false, false, false] rfl rfl (any_of HT_.out (by kernel_rfl)) (fun _ _ _ h => h) (Or.inr ⟨by rfl, rfl⟩) ?_ ?_
                rotate_left
                · simp only [Act.put, List.setIfInBounds_toArray, List.set_cons_zero, List.set_cons_succ, i64_w, i32_w]
                  rfl
                refine pure_ (i := 9) (N := some 24) (v := undef) (a' := ?_) #[true, true, true, true, true, true, true, true, true, true, false, false, false, false, false] rfl rfl (any_of HT_.out (by kernel_rfl)) (fun _ _ _ h => h) (Or.inr ⟨by rfl, rfl⟩) ?_ ?_
                rotate_left
                · simp only [Act.put, List.setIfInBounds_toArray, List.set_cons_zero, List.set_cons_succ, i64_w, i32_w]
                  rfl
                refine pure_ (i := 10) (N := some 25) (v := undef) (a' := ?_) #[true, true, true, true, true, true, true, true, true, true, true, false, false, false, false] rfl rfl (any_of HT_.out (by kernel_rfl)) (fun _ _ _ h => h) (Or.inr ⟨by rfl, rfl⟩) ?_ ?_
                rotate_left
                · simp only [Act.put, List.setIfInBounds_toArray, List.set_cons_zero, List.set_cons_succ, i64_w, i32_w]
                  rfl
                refine pure_ (i := 11) (N := some 26) (v := undef) (a' := ?_) #[true, true, true, true, true, true, true, true, true, true, true, true, false, false, false] rfl rfl (any_of HT_.out (by kernel_rfl)) (fun _ _ _ h => h) (Or.inr ⟨by rfl, rfl⟩) ?_ ?_
                rotate_left
                · simp only [Act.put, List.setIfInBounds_toArray, List.set_cons_zero, List.set_cons_succ, i64_w, i32_w]
                  rfl
                refine pure_ (i := 12) (N := some 27) (v := undef) (a' := ?_) #[true, true, true, true, true, true, true, true, true, true, true, true, true, false, false] rfl rfl (any_of HT_.out (by kernel_rfl)) (fun _ _ _ h => h) (Or.inr ⟨by rfl, rfl⟩) ?_ ?_
                rotate_left
                · simp only [Act.put, List.setIfInBounds_toArray, List.set_cons_zero, List.set_cons_succ, i64_w, i32_w]
                  rfl
                refine pure_ (i := 13) (N := some 28) (v := ?_) (a' := ?_) #[true, true, true, true, true, true, true, true, true, true, true, true, true, true, false] rfl rfl (any_of HT_.out (by kernel_rfl)) (fun _ _ _ h => h) (Or.inl ⟨by rfl, ?_⟩) ?_ ?_
                rotate_left
                · intro w'
                  go_simp
                  with_reducible rfl
                rotate_left
                · simp only [Act.put, List.setIfInBounds_toArray, List.set_cons_zero, List.set_cons_succ, i64_w, i32_w]
                  rfl
                refine pure_ (i := 14) (N := some 29) (v := ?_) (a' := ?_) #[true, true, true, true, true, true, true, true, true, true, true, true, true, true, true] rfl rfl (any_of HT_.out (by kernel_rfl)) (fun _ _ _ h => h) (Or.inl ⟨by rfl, ?_⟩) ?_ ?_
                rotate_left
                · intro w'
                  go_simp
                  with_reducible rfl
                rotate_left
                · simp only [Act.put, List.setIfInBounds_toArray, List.set_cons_zero, List.set_cons_succ, i64_w, i32_w]
                  rfl
                refine done_ (done_of HT_.out (by kernel_rfl)) ?_
                try go_wp2
                go_roundg k1
                case measure => have := HK1.out; omega
                case rel => exact ⟨(x10_1), (wrap64 (x10_1 + 1)), (by first | rfl | (simp; done) | (simp [*]; done)), (by first | rfl | (simp; done) | (simp [*]; done)), H', ⟨by have := HK1.out; omega⟩, ⟨by (with_reducible repeat (first | refine blk_drewN ?_ _ | refine blk_drew ?_ | refine blk_alloc ?_ _)); exact BK128.out⟩, ⟨by repeat (first | (with_reducible first | exact HB.out | apply below_alloc | apply pw_below_drewN | apply below_drew1 | refine below_set ?_ GE128.out | refine below_set ?_ GE130.out) | exact HB.out)⟩⟩
              · rw [if_neg c9] at H
                have c9b0 : decide (x5_1 < 0) = false := decide_eq_false c9
                clear c9
                by_cases c16 : 0 ≤ x5_1
                · rw [if_pos c16] at H
                  have c16b0 : decide (0 ≤ x5_1) = true := decide_eq_true c16
                  clear c16
                  by_cases c17 : x5_1 < (l1.length : Int)
                  · rw [if_pos c17] at H
                    have c17b0 : decide (x5_1 < (l1.length : Int)) = true := decide_eq_true c17
                    clear c17
                    replace H := Option.bind_eq_some_iff.mp H
                    obtain ⟨t133, A180, H⟩ := H
                    replace H : (if t133 = true then (clepsydraref15_Choose.l0 k1 l1 x10_1 l1 (l1.length : Int) (wrap64 (x10_1 + 1)) a0_0 a0_1 a0_2 a0_3 a0_4 a0_5 a0_6 a0_7 a0_8 a0_9 a0_10 a0_11) else (clepsydraref15_Choose.l0 k1 l1 x5_1 l1 (l1.length : Int) (wrap64 (x10_1 + 1)) a0_0 a0_1 a0_2 a0_3 a0_4 a0_5 a0_6 a0_7 a0_8 a0_9 a0_10 a0_11)) = some r := H
                    have A18 := Aside0.mk A180
                    clear A180
                    by_cases c19 : t133 = true
                    · subst c19
                      have H1 : (clepsydraref15_Choose.l0 k1 l1 x10_1 l1 (l1.length : Int) (wrap64 (x10_1 + 1)) a0_0 a0_1 a0_2 a0_3 a0_4 a0_5 a0_6 a0_7 a0_8 a0_9 a0_10 a0_11) = some r := by rw [if_pos rfl] at H; exact H
                      clear H
                      have H := H1
                      clear H1
                      have H' := Aside0.mk H
                      clear H
                      have p129 : 0 ≤ (x10_1 : Int) := of_decide_eq_true (by first | (with_reducible assumption) | assumption)
                      have q129 : x10_1 < (l1.length : Int) := of_decide_eq_true (by first | (with_reducible assumption) | assumption)
                      obtain ⟨ad129, A129_13, c129_13, e129, hx129_0, hx129_1, hx129_2, hx129_3, hx129_4, hx129_5, hx129_6, hx129_7, hx129_8, hx129_9, hx129_10, hx129_11, hx129_12, hx129_13, hl129_13, hi129_13⟩ := at_T38 HR1.out x10_1 p129 q129
                      cases e129
                      replace hx129_0 := (HB.out.cell (World.block_lt_of_cell? w _ hx129_0)).trans hx129_0
                      replace hx129_1 := (HB.out.cell (World.block_lt_of_cell? w _ hx129_1)).trans hx129_1
                      replace hx129_2 := (HB.out.cell (World.block_lt_of_cell? w _ hx129_2)).trans hx129_2
                      replace hx129_3 := (HB.out.cell (World.block_lt_of_cell? w _ hx129_3)).trans hx129_3
                      replace hx129_4 := (HB.out.cell (World.block_lt_of_cell? w _ hx129_4)).trans hx129_4
                      replace hx129_5 := (HB.out.cell (World.block_lt_of_cell? w _ hx129_5)).trans hx129_5
                      replace hx129_6 := (HB.out.cell (World.block_lt_of_cell? w _ hx129_6)).trans hx129_6
                      replace hx129_7 := (HB.out.cell (World.block_lt_of_cell? w _ hx129_7)).trans hx129_7
                      replace hx129_8 := (HB.out.cell (World.block_lt_of_cell? w _ hx129_8)).trans hx129_8
                      replace hx129_9 := (HB.out.cell (World.block_lt_of_cell? w _ hx129_9)).trans hx129_9
                      replace hx129_10 := (HB.out.cell (World.block_lt_of_cell? w _ hx129_10)).trans hx129_10
                      replace hx129_11 := (HB.out.cell (World.block_lt_of_cell? w _ hx129_11)).trans hx129_11
                      replace hx129_12 := (HB.out.cell (World.block_lt_of_cell? w _ hx129_12)).trans hx129_12
                      replace hx129_13 := (HB.out.cell (World.block_lt_of_cell? w _ hx129_13)).trans hx129_13
                      have HR129_13 := Aside0.mk hi129_13
                      have HC129_13 := Aside0.mk hl129_13
                      clear hi129_13 hl129_13
                      replace p129 := eq_true p129
                      replace q129 := eq_true q129
                      try go_wp2_with (first | ((with_reducible refine gate_dst (N := 7) rfl ?_); refine box_event ?hg (N := 7) ?hd (cs := #[.int .i64 0, .int .i64 0, .int .i64 0, .int .i64 0, .int .i64 0, .int .i64 0, .bool false, .bool false, .int .i64 0, .int .i64 0, .int .i64 0, .int .i64 0, .int .i64 0, .slice none 0 0]) (t := 38) ?hr ?_; (case hd => rfl); (case hg => rfl); (case hr => first | (go_simp; done) | (go_simp; rfl)); intro gb130 hg w20 hbox hb; have n0_ := Aside0.mk (blk_below (g := gb128) (o := .cells #[.int .i64 a0_0, .int .i64 a0_1, .int .i64 a0_2, .int .i64 a0_3, .int .i64 a0_4, .int .i64 a0_5, .int .i64 a0_6, .int .i64 a0_7, .int .i64 a0_8, .int .i64 a0_9, .int .i64 a0_10, .int .i64 a0_11] 23 (0, 0)) (by (with_reducible repeat (first | refine blk_drewN ?_ _ | refine blk_drew ?_ | refine blk_alloc ?_ _)); exact BK128.out) hb); have n1_ := Aside0.mk (below_step (by repeat (first | (with_reducible first | exact HB.out | apply below_alloc | apply pw_below_drewN | apply below_drew1 | refine below_set ?_ GE128.out) | exact HB.out)) hb); have n2_ := Aside0.mk (hbox); have n3_ := Aside0.mk ((by rw [hg]; exact (below_size (by repeat (first | (with_reducible first | exact HB.out | apply below_alloc | apply pw_below_drewN | apply below_drew1 | refine below_set ?_ GE128.out) | exact HB.out))) : w.heap.size ≤ gb130)); have n4_ := Aside0.mk ((by rw [hg]; exact (below_size (by repeat (first | (with_reducible first | exact HB.out | apply below_alloc | apply pw_below_drewN | apply below_drew1 | refine below_set ?_ GE128.out) | exact HB.out))) : w.heap.size ≤ gb130)); have n5_ := Aside0.mk ((by rw [hg]; exact Nat.ne_of_lt (blk_lt (g := gb128) (o := .cells #[.int .i64 a0_0, .int .i64 a0_1, .int .i64 a0_2, .int .i64 a0_3, .int .i64 a0_4, .int .i64 a0_5, .int .i64 a0_6, .int .i64 a0_7, .int .i64 a0_8, .int .i64 a0_9, .int .i64 a0_10, .int .i64 a0_11] 23 (0, 0)) (by (with_reducible repeat (first | refine blk_drewN ?_ _ | refine blk_drew ?_ | refine blk_alloc ?_ _)); exact BK128.out)) : gb128 ≠ gb130)); have n6_ := Aside0.mk ((by rw [hg]; exact Nat.ne_of_gt (blk_lt (g := gb128) (o := .cells #[.int .i64 a0_0, .int .i64 a0_1, .int .i64 a0_2, .int .i64 a0_3, .int .i64 a0_4, .int .i64 a0_5, .int .i64 a0_6, .int .i64 a0_7, .int .i64 a0_8, .int .i64 a0_9, .int .i64 a0_10, .int .i64 a0_11] 23 (0, 0)) (by (with_reducible repeat (first | refine blk_drewN ?_ _ | refine blk_drew ?_ | refine blk_alloc ?_ _)); exact BK128.out)) : gb130 ≠ gb128)); clear BK128; clear HB; have BK128 := n0_; have HB := n1_; have BK130 := n2_; have GW130 := n3_; have GE130 := n4_; have NB128_130 := n5_; have NB130_128 := n6_; clear n0_ n1_ n2_ n3_ n4_ n5_ n6_; clear hb hbox hg; have hnb21 := NB130_128.out; have hnc21 := NB128_130.out; have hcz22_0 : w20.cell? ⟨gb130, 0, none⟩ = some (.int .i64 0) := (blk_cell BK130.out 0).trans rfl; have hcz22_1 : w20.cell? ⟨gb130, 1, none⟩ = some (.int .i64 0) := (blk_cell BK130.out 1).trans rfl; have hcz22_2 : w20.cell? ⟨gb130, 2, none⟩ = some (.int .i64 0) := (blk_cell BK130.out 2).trans rfl; have hcz22_3 : w20.cell? ⟨gb130, 3, none⟩ = some (.int .i64 0) := (blk_cell BK130.out 3).trans rfl; have hcz22_4 : w20.cell? ⟨gb130, 4, none⟩ = some (.int .i64 0) := (blk_cell BK130.out 4).trans rfl; have hcz22_5 : w20.cell? ⟨gb130, 5, none⟩ = some (.int .i64 0) := (blk_cell BK130.out 5).trans rfl; have hcz22_6 : w20.cell? ⟨gb130, 6, none⟩ = some (.bool false) := (blk_cell BK130.out 6).trans rfl; have hcz22_7 : w20.cell? ⟨gb130, 7, none⟩ = some (.bool false) := (blk_cell BK130.out 7).trans rfl; have hcz22_8 : w20.cell? ⟨gb130, 8, none⟩ = some (.int .i64 0) := (blk_cell BK130.out 8).trans rfl; have hcz22_9 : w20.cell? ⟨gb130, 9, none⟩ = some (.int .i64 0) := (blk_cell BK130.out 9).trans rfl; have hcz22_10 : w20.cell? ⟨gb130, 10, none⟩ = some (.int .i64 0) := (blk_cell BK130.out 10).trans rfl; have hcz22_11 : w20.cell? ⟨gb130, 11, none⟩ = some (.int .i64 0) := (blk_cell BK130.out 11).trans rfl; have hcz22_12 : w20.cell? ⟨gb130, 12, none⟩ = some (.int .i64 0) := (blk_cell BK130.out 12).trans rfl; have hcz22_13 : w20.cell? ⟨gb130, 13, none⟩ = some (.slice none 0 0) := (blk_cell BK130.out 13).trans rfl; have hfz22_0 := blk_frozen BK130.out 0; have hfz22_1 := blk_frozen BK130.out 1; have hfz22_2 := blk_frozen BK130.out 2; have hfz22_3 := blk_frozen BK130.out 3; have hfz22_4 := blk_frozen BK130.out 4; have hfz22_5 := blk_frozen BK130.out 5; have hfz22_6 := blk_frozen BK130.out 6; have hfz22_7 := blk_frozen BK130.out 7; have hfz22_8 := blk_frozen BK130.out 8; have hfz22_9 := blk_frozen BK130.out 9; have hfz22_10 := blk_frozen BK130.out 10; have hfz22_11 := blk_frozen BK130.out 11; have hfz22_12 := blk_frozen BK130.out 12; have hfz22_13 := blk_frozen BK130.out 13))
                      have n0_ : Aside0 (((((((((((((((w20.setCell ⟨gb130, 0, none⟩ (.int .i64 ((rd_T38 l1 x10_1).f0))).setCell ⟨gb130, 1, none⟩ (.int .i64 ((rd_T38 l1 x10_1).f1))).setCell ⟨gb130, 2, none⟩ (.int .i64 ((rd_T38 l1 x10_1).f2.f0))).setCell ⟨gb130, 3, none⟩ (.int .i64 ((rd_T38 l1 x10_1).f2.f1))).setCell ⟨gb130, 4, none⟩ (.int .i64 ((rd_T38 l1 x10_1).f3))).setCell ⟨gb130, 5, none⟩ (.int .i64 ((rd_T38 l1 x10_1).f4))).setCell ⟨gb130, 6, none⟩ (.bool ((rd_T38 l1 x10_1).f5))).setCell ⟨gb130, 7, none⟩ (.bool ((rd_T38 l1 x10_1).f6))).setCell ⟨gb130, 8, none⟩ (.int .i64 ((rd_T38 l1 x10_1).f7.f0))).setCell ⟨gb130, 9, none⟩ (.int .i64 ((rd_T38 l1 x10_1).f7.f1))).setCell ⟨gb130, 10, none⟩ (.int .i64 ((rd_T38 l1 x10_1).f8))).setCell ⟨gb130, 11, none⟩ (.int .i64 ((rd_T38 l1 x10_1).f9.f0))).setCell ⟨gb130, 12, none⟩ (.int .i64 ((rd_T38 l1 x10_1).f9.f1))).setCell ⟨gb130, 13, none⟩ (.slice A129_13 ((rd_T38 l1 x10_1).f10).length c129_13)).heap[gb128]? = some (.cells #[.int .i64 a0_0, .int .i64 a0_1, .int .i64 a0_2, .int .i64 a0_3, .int .i64 a0_4, .int .i64 a0_5, .int .i64 a0_6, .int .i64 a0_7, .int .i64 a0_8, .int .i64 a0_9, .int .i64 a0_10, .int .i64 a0_11] 23 (0, 0))) := ⟨by (with_reducible repeat (first | refine blk_drewN ?_ _ | refine blk_drew ?_ | refine blk_alloc ?_ _)); refine blk_far ?_ NB128_130.out _; (with_reducible repeat (first | refine blk_drewN ?_ _ | refine blk_drew ?_ | refine blk_alloc ?_ _)); refine blk_far ?_ NB128_130.out _; (with_reducible repeat (first | refine blk_drewN ?_ _ | refine blk_drew ?_ | refine blk_alloc ?_ _)); refine blk_far ?_ NB128_130.out _; (with_reducible repeat (first | refine blk_drewN ?_ _ | refine blk_drew ?_ | refine blk_alloc ?_ _)); refine blk_far ?_ NB128_130.out _; (with_reducible repeat (first | refine blk_drewN ?_ _ | refine blk_drew ?_ | refine blk_alloc ?_ _)); refine blk_far ?_ NB128_130.out _; (with_reducible repeat (first | refine blk_drewN ?_ _ | refine blk_drew ?_ | refine blk_alloc ?_ _)); refine blk_far ?_ NB128_130.out _; (with_reducible repeat (first | refine blk_drewN ?_ _ | refine blk_drew ?_ | refine blk_alloc ?_ _)); refine blk_far ?_ NB128_130.out _; (with_reducible repeat (first | refine blk_drewN ?_ _ | refine blk_drew ?_ | refine blk_alloc ?_ _)); refine blk_far ?_ NB128_130.out _; (with_reducible repeat (first | refine blk_drewN ?_ _ | refine blk_drew ?_ | refine blk_alloc ?_ _)); refine blk_far ?_ NB128_130.out _; (with_reducible repeat (first | refine blk_drewN ?_ _ | refine blk_drew ?_ | refine blk_alloc ?_ _)); refine blk_far ?_ NB128_130.out _; (with_reducible repeat (first | refine blk_drewN ?_ _ | refine blk_drew ?_ | refine blk_alloc ?_ _)); refine blk_far ?_ NB128_130.out _; (with_reducible repeat (first | refine blk_drewN ?_ _ | refine blk_drew ?_ | refine blk_alloc ?_ _)); refine blk_far ?_ NB128_130.out _; (with_reducible repeat (first | refine blk_drewN ?_ _ | refine blk_drew ?_ | refine blk_alloc ?_ _)); refine blk_far ?_ NB128_130.out _; (with_reducible repeat (first | refine blk_drewN ?_ _ | refine blk_drew ?_ | refine blk_alloc ?_ _)); refine blk_far ?_ NB128_130.out _; (with_reducible repeat (first | refine blk_drewN ?_ _ | refine blk_drew ?_ | refine blk_alloc ?_ _)); exact BK128.out⟩
                      have n1_ : Aside0 (((((((((((((((w20.setCell ⟨gb130, 0, none⟩ (.int .i64 ((rd_T38 l1 x10_1).f0))).setCell ⟨gb130, 1, none⟩ (.int .i64 ((rd_T38 l1 x10_1).f1))).setCell ⟨gb130, 2, none⟩ (.int .i64 ((rd_T38 l1 x10_1).f2.f0))).setCell ⟨gb130, 3, none⟩ (.int .i64 ((rd_T38 l1 x10_1).f2.f1))).setCell ⟨gb130, 4, none⟩ (.int .i64 ((rd_T38 l1 x10_1).f3))).setCell ⟨gb130, 5, none⟩ (.int .i64 ((rd_T38 l1 x10_1).f4))).setCell ⟨gb130, 6, none⟩ (.bool ((rd_T38 l1 x10_1).f5))).setCell ⟨gb130, 7, none⟩ (.bool ((rd_T38 l1 x10_1).f6))).setCell ⟨gb130, 8, none⟩ (.int .i64 ((rd_T38 l1 x10_1).f7.f0))).setCell ⟨gb130, 9, none⟩ (.int .i64 ((rd_T38 l1 x10_1).f7.f1))).setCell ⟨gb130, 10, none⟩ (.int .i64 ((rd_T38 l1 x10_1).f8))).setCell ⟨gb130, 11, none⟩ (.int .i64 ((rd_T38 l1 x10_1).f9.f0))).setCell ⟨gb130, 12, none⟩ (.int .i64 ((rd_T38 l1 x10_1).f9.f1))).setCell ⟨gb130, 13, none⟩ (.slice A129_13 ((rd_T38 l1 x10_1).f10).length c129_13)).heap[gb130]? = some (.cells #[.int .i64 ((rd_T38 l1 x10_1).f0), .int .i64 ((rd_T38 l1 x10_1).f1), .int .i64 ((rd_T38 l1 x10_1).f2.f0), .int .i64 ((rd_T38 l1 x10_1).f2.f1), .int .i64 ((rd_T38 l1 x10_1).f3), .int .i64 ((rd_T38 l1 x10_1).f4), .bool ((rd_T38 l1 x10_1).f5), .bool ((rd_T38 l1 x10_1).f6), .int .i64 ((rd_T38 l1 x10_1).f7.f0), .int .i64 ((rd_T38 l1 x10_1).f7.f1), .int .i64 ((rd_T38 l1 x10_1).f8), .int .i64 ((rd_T38 l1 x10_1).f9.f0), .int .i64 ((rd_T38 l1 x10_1).f9.f1), .slice A129_13 ((rd_T38 l1 x10_1).f10).length c129_13] 38 (0, 0))) := ⟨by (with_reducible repeat (first | refine blk_drewN ?_ _ | refine blk_drew ?_ | refine blk_alloc ?_ _)); refine blk_put (cs := #[.int .i64 ((rd_T38 l1 x10_1).f0), .int .i64 ((rd_T38 l1 x10_1).f1), .int .i64 ((rd_T38 l1 x10_1).f2.f0), .int .i64 ((rd_T38 l1 x10_1).f2.f1), .int .i64 ((rd_T38 l1 x10_1).f3), .int .i64 ((rd_T38 l1 x10_1).f4), .bool ((rd_T38 l1 x10_1).f5), .bool ((rd_T38 l1 x10_1).f6), .int .i64 ((rd_T38 l1 x10_1).f7.f0), .int .i64 ((rd_T38 l1 x10_1).f7.f1), .int .i64 ((rd_T38 l1 x10_1).f8), .int .i64 ((rd_T38 l1 x10_1).f9.f0), .int .i64 ((rd_T38 l1 x10_1).f9.f1), .slice none 0 0]) ?_ 13 _ rfl; (with_reducible repeat (first | refine blk_drewN ?_ _ | refine blk_drew ?_ | refine blk_alloc ?_ _)); refine blk_put (cs := #[.int .i64 ((rd_T38 l1 x10_1).f0), .int .i64 ((rd_T38 l1 x10_1).f1), .int .i64 ((rd_T38 l1 x10_1).f2.f0), .int .i64 ((rd_T38 l1 x10_1).f2.f1), .int .i64 ((rd_T38 l1 x10_1).f3), .int .i64 ((rd_T38 l1 x10_1).f4), .bool ((rd_T38 l1 x10_1).f5), .bool ((rd_T38 l1 x10_1).f6), .int .i64 ((rd_T38 l1 x10_1).f7.f0), .int .i64 ((rd_T38 l1 x10_1).f7.f1), .int .i64 ((rd_T38 l1 x10_1).f8), .int .i64 ((rd_T38 l1 x10_1).f9.f0), .int .i64 0, .slice none 0 0]) ?_ 12 _ rfl; (with_reducible repeat (first | refine blk_drewN ?_ _ | refine blk_drew ?_ | refine blk_alloc ?_ _)); refine blk_put (cs := #[.int .i64 ((rd_T38 l1 x10_1).f0), .int .i64 ((rd_T38 l1 x10_1).f1), .int .i64 ((rd_T38 l1 x10_1).f2.f0), .int .i64 ((rd_T38 l1 x10_1).f2.f1), .int .i64 ((rd_T38 l1 x10_1).f3), .int .i64 ((rd_T38 l1 x10_1).f4), .bool ((rd_T38 l1 x10_1).f5), .bool ((rd_T38 l1 x10_1).f6), .int .i64 ((rd_T38 l1 x10_1).f7.f0), .int .i64 ((rd_T38 l1 x10_1).f7.f1), .int .i64 ((rd_T38 l1 x10_1).f8), .int .i64 0, .int .i64 0, .slice none 0 0]) ?_ 11 _ rfl; (with_reducible repeat (first | refine blk_drewN ?_ _ | refine blk_drew ?_ | refine blk_alloc ?_ _)); refine blk_put (cs := #[.int .i64 ((rd_T38 l1 x10_1).f0), .int .i64 ((rd_T38 l1 x10_1).f1), .int .i64 ((rd_T38 l1 x10_1).f2.f0), .int .i64 ((rd_T38 l1 x10_1).f2.f1), .int .i64 ((rd_T38 l1 x10_1).f3), .int .i64 ((rd_T38 l1 x10_1).f4), .bool ((rd_T38 l1 x10_1).f5), .bool ((rd_T38 l1 x10_1).f6), .int .i64 ((rd_T38 l1 x10_1).f7.f0), .int .i64 ((rd_T38 l1 x10_1).f7.f1), .int .i64 0, .int .i64 0, .int .i64 0, .slice none 0 0]) ?_ 10 _ rfl; (with_reducible repeat (first | refine blk_drewN ?_ _ | refine blk_drew ?_ | refine blk_alloc ?_ _)); refine blk_put (cs := #[.int .i64 ((rd_T38 l1 x10_1).f0), .int .i64 ((rd_T38 l1 x10_1).f1), .int .i64 ((rd_T38 l1 x10_1).f2.f0), .int .i64 ((rd_T38 l1 x10_1).f2.f1), .int .i64 ((rd_T38 l1 x10_1).f3), .int .i64 ((rd_T38 l1 x10_1).f4), .bool ((rd_T38 l1 x10_1).f5), .bool ((rd_T38 l1 x10_1).f6), .int .i64 ((rd_T38 l1 x10_1).f7.f0), .int .i64 0, .int .i64 0, .int .i64 0, .int .i64 0, .slice none 0 0]) ?_ 9 _ rfl; (with_reducible repeat (first | refine blk_drewN ?_ _ | refine blk_drew ?_ | refine blk_alloc ?_ _)); refine blk_put (cs := #[.int .i64 ((rd_T38 l1 x10_1).f0), .int .i64 ((rd_T38 l1 x10_1).f1), .int .i64 ((rd_T38 l1 x10_1).f2.f0), .int .i64 ((rd_T38 l1 x10_1).f2.f1), .int .i64 ((rd_T38 l1 x10_1).f3), .int .i64 ((rd_T38 l1 x10_1).f4), .bool ((rd_T38 l1 x10_1).f5), .bool ((rd_T38 l1 x10_1).f6), .int .i64 0, .int .i64 0, .int .i64 0, .int .i64 0, .int .i64 0, .slice none 0 0]) ?_ 8 _ rfl; (with_reducible repeat (first | refine blk_drewN ?_ _ | refine blk_drew ?_ | refine blk_alloc ?_ _)); refine blk_put (cs := #[.int .i64 ((rd_T38 l1 x10_1).f0), .int .i64 ((rd_T38 l1 x10_1).f1), .int .i64 ((rd_T38 l1 x10_1).f2.f0), .int .i64 ((rd_T38 l1 x10_1).f2.f1), .int .i64 ((rd_T38 l1 x10_1).f3), .int .i64 ((rd_T38 l1 x10_1).f4), .bool ((rd_T38 l1 x10_1).f5), .bool false, .int .i64 0, .int .i64 0, .int .i64 0, .int .i64 0, .int .i64 0, .slice none 0 0]) ?_ 7 _ rfl; (with_reducible repeat (first | refine blk_drewN ?_ _ | refine blk_drew ?_ | refine blk_alloc ?_ _)); refine blk_put (cs := #[.int .i64 ((rd_T38 l1 x10_1).f0), .int .i64 ((rd_T38 l1 x10_1).f1), .int .i64 ((rd_T38 l1 x10_1).f2.f0), .int .i64 ((rd_T38 l1 x10_1).f2.f1), .int .i64 ((rd_T38 l1 x10_1).f3), .int .i64 ((rd_T38 l1 x10_1).f4), .bool false, .bool false, .int .i64 0, .int .i64 0, .int .i64 0, .int .i64 0, .int .i64 0, .slice none 0 0]) ?_ 6 _ rfl; (with_reducible repeat (first | refine blk_drewN ?_ _ | refine blk_drew ?_ | refine blk_alloc ?_ _)); refine blk_put (cs := #[.int .i64 ((rd_T38 l1 x10_1).f0), .int .i64 ((rd_T38 l1 x10_1).f1), .int .i64 ((rd_T38 l1 x10_1).f2.f0), .int .i64 ((rd_T38 l1 x10_1).f2.f1), .int .i64 ((rd_T38 l1 x10_1).f3), .int .i64 0, .bool false, .bool false, .int .i64 0, .int .i64 0, .int .i64 0, .int .i64 0, .int .i64 0, .slice none 0 0]) ?_ 5 _ rfl; (with_reducible repeat (first | refine blk_drewN ?_ _ | refine blk_drew ?_ | refine blk_alloc ?_ _)); refine blk_put (cs := #[.int .i64 ((rd_T38 l1 x10_1).f0), .int .i64 ((rd_T38 l1 x10_1).f1), .int .i64 ((rd_T38 l1 x10_1).f2.f0), .int .i64 ((rd_T38 l1 x10_1).f2.f1), .int .i64 0, .int .i64 0, .bool false, .bool false, .int .i64 0, .int .i64 0, .int .i64 0, .int .i64 0, .int .i64 0, .slice none 0 0]) ?_ 4 _ rfl; (with_reducible repeat (first | refine blk_drewN ?_ _ | refine blk_drew ?_ | refine blk_alloc ?_ _)); refine blk_put (cs := #[.int .i64 ((rd_T38 l1 x10_1).f0), .int .i64 ((rd_T38 l1 x10_1).f1), .int .i64 ((rd_T38 l1 x10_1).f2.f0), .int .i64 0, .int .i64 0, .int .i64 0, .bool false, .bool false, .int .i64 0, .int .i64 0, .int .i64 0, .int .i64 0, .int .i64 0, .slice none 0 0]) ?_ 3 _ rfl; (with_reducible repeat (first | refine blk_drewN ?_ _ | refine blk_drew ?_ | refine blk_alloc ?_ _)); refine blk_put (cs := #[.int .i64 ((rd_T38 l1 x10_1).f0), .int .i64 ((rd_T38 l1 x10_1).f1), .int .i64 0, .int .i64 0, .int .i64 0, .int .i64 0, .bool false, .bool false, .int .i64 0, .int .i64 0, .int .i64 0, .int .i64 0, .int .i64 0, .slice none 0 0]) ?_ 2 _ rfl; (with_reducible repeat (first | refine blk_drewN ?_ _ | refine blk_drew ?_ | refine blk_alloc ?_ _)); refine blk_put (cs := #[.int .i64 ((rd_T38 l1 x10_1).f0), .int .i64 0, .int .i64 0, .int .i64 0, .int .i64 0, .int .i64 0, .bool false, .bool false, .int .i64 0, .int .i64 0, .int .i64 0, .int .i64 0, .int .i64 0, .slice none 0 0]) ?_ 1 _ rfl; (with_reducible repeat (first | refine blk_drewN ?_ _ | refine blk_drew ?_ | refine blk_alloc ?_ _)); refine blk_put (cs := #[.int .i64 0, .int .i64 0, .int .i64 0, .int .i64 0, .int .i64 0, .int .i64 0, .bool false, .bool false, .int .i64 0, .int .i64 0, .int .i64 0, .int .i64 0, .int .i64 0, .slice none 0 0]) ?_ 0 _ rfl; (with_reducible repeat (first | refine blk_drewN ?_ _ | refine blk_drew ?_ | refine blk_alloc ?_ _)); exact BK130.out⟩
                      have n2_ : Aside0 (Below w.heap.size w ((((((((((((((w20.setCell ⟨gb130, 0, none⟩ (.int .i64 ((rd_T38 l1 x10_1).f0))).setCell ⟨gb130, 1, none⟩ (.int .i64 ((rd_T38 l1 x10_1).f1))).setCell ⟨gb130, 2, none⟩ (.int .i64 ((rd_T38 l1 x10_1).f2.f0))).setCell ⟨gb130, 3, none⟩ (.int .i64 ((rd_T38 l1 x10_1).f2.f1))).setCell ⟨gb130, 4, none⟩ (.int .i64 ((rd_T38 l1 x10_1).f3))).setCell ⟨gb130, 5, none⟩ (.int .i64 ((rd_T38 l1 x10_1).f4))).setCell ⟨gb130, 6, none⟩ (.bool ((rd_T38 l1 x10_1).f5))).setCell ⟨gb130, 7, none⟩ (.bool ((rd_T38 l1 x10_1).f6))).setCell ⟨gb130, 8, none⟩ (.int .i64 ((rd_T38 l1 x10_1).f7.f0))).setCell ⟨gb130, 9, none⟩ (.int .i64 ((rd_T38 l1 x10_1).f7.f1))).setCell ⟨gb130, 10, none⟩ (.int .i64 ((rd_T38 l1 x10_1).f8))).setCell ⟨gb130, 11, none⟩ (.int .i64 ((rd_T38 l1 x10_1).f9.f0))).setCell ⟨gb130, 12, none⟩ (.int .i64 ((rd_T38 l1 x10_1).f9.f1))).setCell ⟨gb130, 13, none⟩ (.slice A129_13 ((rd_T38 l1 x10_1).f10).length c129_13))) := ⟨by repeat (first | (with_reducible first | exact HB.out | apply below_alloc | apply pw_below_drewN | apply below_drew1 | refine below_set ?_ GE128.out | refine below_set ?_ GE130.out) | exact HB.out)⟩
                      (try clear BK128)
                      (try clear BK130)
                      (try clear HB)
                      generalize ((((((((((((((w20.setCell ⟨gb130, 0, none⟩ (.int .i64 ((rd_T38 l1 x10_1).f0))).setCell ⟨gb130, 1, none⟩ (.int .i64 ((rd_T38 l1 x10_1).f1))).setCell ⟨gb130, 2, none⟩ (.int .i64 ((rd_T38 l1 x10_1).f2.f0))).setCell ⟨gb130, 3, none⟩ (.int .i64 ((rd_T38 l1 x10_1).f2.f1))).setCell ⟨gb130, 4, none⟩ (.int .i64 ((rd_T38 l1 x10_1).f3))).setCell ⟨gb130, 5, none⟩ (.int .i64 ((rd_T38 l1 x10_1).f4))).setCell ⟨gb130, 6, none⟩ (.bool ((rd_T38 l1 x10_1).f5))).setCell ⟨gb130, 7, none⟩ (.bool ((rd_T38 l1 x10_1).f6))).setCell ⟨gb130, 8, none⟩ (.int .i64 ((rd_T38 l1 x10_1).f7.f0))).setCell ⟨gb130, 9, none⟩ (.int .i64 ((rd_T38 l1 x10_1).f7.f1))).setCell ⟨gb130, 10, none⟩ (.int .i64 ((rd_T38 l1 x10_1).f8))).setCell ⟨gb130, 11, none⟩ (.int .i64 ((rd_T38 l1 x10_1).f9.f0))).setCell ⟨gb130, 12, none⟩ (.int .i64 ((rd_T38 l1 x10_1).f9.f1))).setCell ⟨gb130, 13, none⟩ (.slice A129_13 ((rd_T38 l1 x10_1).f10).length c129_13)) = w23 at n0_ n1_ n2_ ⊢
                      have BK128 := n0_
                      have BK130 := n1_
                      have HB := n2_
                      clear n0_ n1_ n2_
                      have n0_ := Aside0.mk (blk_drew BK128.out)
                      have n1_ := Aside0.mk (blk_drew BK130.out)
                      have n2_ := Aside0.mk (below_drew1 HB.out)
                      clear BK128
                      clear BK130
                      clear HB
                      have BK128 := n0_
                      have BK130 := n1_
                      have HB := n2_
                      clear n0_ n1_ n2_
                      have p132 : 0 ≤ (x5_1 : Int) := of_decide_eq_true (by first | (with_reducible assumption) | assumption)
                      have q132 : x5_1 < (l1.length : Int) := of_decide_eq_true (by first | (with_reducible assumption) | assumption)
                      obtain ⟨ad132, A132_13, c132_13, e132, hx132_0, hx132_1, hx132_2, hx132_3, hx132_4, hx132_5, hx132_6, hx132_7, hx132_8, hx132_9, hx132_10, hx132_11, hx132_12, hx132_13, hl132_13, hi132_13⟩ := at_T38 HR1.out x5_1 p132 q132
                      have hw132_13 := hx132_13
                      have hw132_12 := hx132_12
                      have hw132_11 := hx132_11
                      have hw132_10 := hx132_10
                      have hw132_9 := hx132_9
                      have hw132_8 := hx132_8
                      have hw132_7 := hx132_7
                      have hw132_6 := hx132_6
                      have hw132_5 := hx132_5
                      have hw132_4 := hx132_4
                      have hw132_3 := hx132_3
                      have hw132_2 := hx132_2
                      have hw132_1 := hx132_1
                      have hw132_0 := hx132_0
                      obtain rfl : ad129 = ad132 := (by injection e132)
                      replace hx132_0 := (HB.out.cell (World.block_lt_of_cell? w _ hx132_0)).trans hx132_0
                      replace hx132_1 := (HB.out.cell (World.block_lt_of_cell? w _ hx132_1)).trans hx132_1
                      replace hx132_2 := (HB.out.cell (World.block_lt_of_cell? w _ hx132_2)).trans hx132_2
                      replace hx132_3 := (HB.out.cell (World.block_lt_of_cell? w _ hx132_3)).trans hx132_3
                      replace hx132_4 := (HB.out.cell (World.block_lt_of_cell? w _ hx132_4)).trans hx132_4
                      replace hx132_5 := (HB.out.cell (World.block_lt_of_cell? w _ hx132_5)).trans hx132_5
                      replace hx132_6 := (HB.out.cell (World.block_lt_of_cell? w _ hx132_6)).trans hx132_6
                      replace hx132_7 := (HB.out.cell (World.block_lt_of_cell? w _ hx132_7)).trans hx132_7
                      replace hx132_8 := (HB.out.cell (World.block_lt_of_cell? w _ hx132_8)).trans hx132_8
                      replace hx132_9 := (HB.out.cell (World.block_lt_of_cell? w _ hx132_9)).trans hx132_9
                      replace hx132_10 := (HB.out.cell (World.block_lt_of_cell? w _ hx132_10)).trans hx132_10
                      replace hx132_11 := (HB.out.cell (World.block_lt_of_cell? w _ hx132_11)).trans hx132_11
                      replace hx132_12 := (HB.out.cell (World.block_lt_of_cell? w _ hx132_12)).trans hx132_12
                      replace hx132_13 := (HB.out.cell (World.block_lt_of_cell? w _ hx132_13)).trans hx132_13
                      have HR132_13 := Aside0.mk hi132_13
                      have HC132_13 := Aside0.mk hl132_13
                      clear hi132_13 hl132_13
                      replace p132 := eq_true p132
                      replace q132 := eq_true q132
                      refine start_ (n := 15) (S := fun w' => w'.cell? ⟨gb128, 0, none⟩ = some (.int .i64 a0_0) ∧ w'.cell? ⟨gb128, 1, none⟩ = some (.int .i64 a0_1) ∧ w'.cell? ⟨gb128, 2, none⟩ = some (.int .i64 a0_2) ∧ w'.cell? ⟨gb128, 3, none⟩ = some (.int .i64 a0_3) ∧ w'.cell? ⟨gb128, 4, none⟩ = some (.int .i64 a0_4) ∧ w'.cell? ⟨gb128, 5, none⟩ = some (.int .i64 a0_5) ∧ w'.cell? ⟨gb128, 6, none⟩ = some (.int .i64 a0_6) ∧ w'.cell? ⟨gb128, 7, none⟩ = some (.int .i64 a0_7) ∧ w'.cell? ⟨gb128, 8, none⟩ = some (.int .i64 a0_8) ∧ w'.cell? ⟨gb128, 9, none⟩ = some (.int .i64 a0_9) ∧ w'.cell? ⟨gb128, 10, none⟩ = some (.int .i64 a0_10) ∧ w'.cell? ⟨gb128, 11, none⟩ = some (.int .i64 a0_11) ∧ w'.cell? ⟨gb130, 0, none⟩ = some (.int .i64 ((rd_T38 l1 x10_1).f0)) ∧ w'.cell? ⟨gb130, 1, none⟩ = some (.int .i64 ((rd_T38 l1 x10_1).f1)) ∧ w'.cell? ⟨gb130, 2, none⟩ = some (.int .i64 ((rd_T38 l1 x10_1).f2.f0)) ∧ w'.cell? ⟨gb130, 3, none⟩ = some (.int .i64 ((rd_T38 l1 x10_1).f2.f1)) ∧ w'.cell? ⟨gb130, 4, none⟩ = some (.int .i64 ((rd_T38 l1 x10_1).f3)) ∧ w'.cell? ⟨gb130, 5, none⟩ = some (.int .i64 ((rd_T38 l1 x10_1).f4)) ∧ w'.cell? ⟨gb130, 6, none⟩ = some (.bool ((rd_T38 l1 x10_1).f5)) ∧ w'.cell? ⟨gb130, 7, none⟩ = some (.bool ((rd_T38 l1 x10_1).f6)) ∧ w'.cell? ⟨gb130, 8, none⟩ = some (.int .i64 ((rd_T38 l1 x10_1).f7.f0)) ∧ w'.cell? ⟨gb130, 9, none⟩ = some (.int .i64 ((rd_T38 l1 x10_1).f7.f1)) ∧ w'.cell? ⟨gb130, 10, none⟩ = some (.int .i64 ((rd_T38 l1 x10_1).f8)) ∧ w'.cell? ⟨gb130, 11, none⟩ = some (.int .i64 ((rd_T38 l1 x10_1).f9.f0)) ∧ w'.cell? ⟨gb130, 12, none⟩ = some (.int .i64 ((rd_T38 l1 x10_1).f9.f1)) ∧ w'.cell? ⟨gb130, 13, none⟩ = some (.slice A129_13 ((rd_T38 l1 x10_1).f10).length c129_13) ∧ w'.cell? (ad129.add ((x5_1).toNat * 14)) = some (.int .i64 ((rd_T38 l1 x5_1).f0)) ∧ w'.cell? ⟨(ad129.add ((x5_1).toNat * 14)).block, (ad129.add ((x5_1).toNat * 14)).off + 1, none⟩ = some (.int .i64 ((rd_T38 l1 x5_1).f1)) ∧ w'.cell? ⟨(ad129.add ((x5_1).toNat * 14)).block, (ad129.add ((x5_1).toNat * 14)).off + 2, none⟩ = some (.int .i64 ((rd_T38 l1 x5_1).f2.f0)) ∧ w'.cell? ⟨(ad129.add ((x5_1).toNat * 14)).block, (ad129.add ((x5_1).toNat * 14)).off + 3, none⟩ = some (.int .i64 ((rd_T38 l1 x5_1).f2.f1)) ∧ w'.cell? ⟨(ad129.add ((x5_1).toNat * 14)).block, (ad129.add ((x5_1).toNat * 14)).off + 4, none⟩ = some (.int .i64 ((rd_T38 l1 x5_1).f3)) ∧ w'.cell? ⟨(ad129.add ((x5_1).toNat * 14)).block, (ad129.add ((x5_1).toNat * 14)).off + 5, none⟩ = some (.int .i64 ((rd_T38 l1 x5_1).f4)) ∧ w'.cell? ⟨(ad129.add ((x5_1).toNat * 14)).block, (ad129.add ((x5_1).toNat * 14)).off + 6, none⟩ = some (.bool ((rd_T38 l1 x5_1).f5)) ∧ w'.cell? ⟨(ad129.add ((x5_1).toNat * 14)).block, (ad129.add ((x5_1).toNat * 14)).off + 7, none⟩ = some (.bool ((rd_T38 l1 x5_1).f6)) ∧ w'.cell? ⟨(ad129.add ((x5_1).toNat * 14)).block, (ad129.add ((x5_1).toNat * 14)).off + 8, none⟩ = some (.int .i64 ((rd_T38 l1 x5_1).f7.f0)) ∧ w'.cell? ⟨(ad129.add ((x5_1).toNat * 14)).block, (ad129.add ((x5_1).toNat * 14)).off + 9, none⟩ = some (.int .i64 ((rd_T38 l1 x5_1).f7.f1)) ∧ w'.cell? ⟨(ad129.add ((x5_1).toNat * 14)).block, (ad129.add ((x5_1).toNat * 14)).off + 10, none⟩ = some (.int .i64 ((rd_T38 l1 x5_1).f8)) ∧ w'.cell? ⟨(ad129.add ((x5_1).toNat * 14)).block, (ad129.add ((x5_1).toNat * 14)).off + 11, none⟩ = some (.int .i64 ((rd_T38 l1 x5_1).f9.f0)) ∧ w'.cell? ⟨(ad129.add ((x5_1).toNat * 14)).block, (ad129.add ((x5_1).toNat * 14)).off + 12, none⟩ = some (.int .i64 ((rd_T38 l1 x5_1).f9.f1)) ∧ w'.cell? ⟨(ad129.add ((x5_1).toNat * 14)).block, (ad129.add ((x5_1).toNat * 14)).off + 13, none⟩ = some (.slice A132_13 ((rd_T38 l1 x5_1).f10).length c132_13)) (ds := []) #[false, false, false, false, false, false, false, false, false, false, false, false, false, false, false] (by kernel_rfl) rfl rfl ⟨(blk_cell BK128.out 0).trans rfl, (blk_cell BK128.out 1).trans rfl, (blk_cell BK128.out 2).trans rfl, (blk_cell BK128.out 3).trans rfl, (blk_cell BK128.out 4).trans rfl, (blk_cell BK128.out 5).trans rfl, (blk_cell BK128.out 6).trans rfl, (blk_cell BK128.out 7).trans rfl, (blk_cell BK128.out 8).trans rfl, (blk_cell BK128.out 9).trans rfl, (blk_cell BK128.out 10).trans rfl, (blk_cell BK128.out 11).trans rfl, (blk_cell BK130.out 0).trans rfl, (blk_cell BK130.out 1).trans rfl, (blk_cell BK130.out 2).trans rfl, (blk_cell BK130.out 3).trans rfl, (blk_cell BK130.out 4).trans rfl, (blk_cell BK130.out 5).trans rfl, (blk_cell BK130.out 6).trans rfl, (blk_cell BK130.out 7).trans rfl, (blk_cell BK130.out 8).trans rfl, (blk_cell BK130.out 9).trans rfl, (blk_cell BK130.out 10).trans rfl, (blk_cell BK130.out 11).trans rfl, (blk_cell BK130.out 12).trans rfl, (blk_cell BK130.out 13).trans rfl, ((HB.out.cell (World.block_lt_of_cell? w _ hw132_0)).trans hw132_0), ((HB.out.cell (World.block_lt_of_cell? w _ hw132_1)).trans hw132_1), ((HB.out.cell (World.block_lt_of_cell? w _ hw132_2)).trans hw132_2), ((HB.out.cell (World.block_lt_of_cell? w _ hw132_3)).trans hw132_3), ((HB.out.cell (World.block_lt_of_cell? w _ hw132_4)).trans hw132_4), ((HB.out.cell (World.block_lt_of_cell? w _ hw132_5)).trans hw132_5), ((HB.out.cell (World.block_lt_of_cell? w _ hw132_6)).trans hw132_6), ((HB.out.cell (World.block_lt_of_cell? w _ hw132_7)).trans hw132_7), ((HB.out.cell (World.block_lt_of_cell? w _ hw132_8)).trans hw132_8), ((HB.out.cell (World.block_lt_of_cell? w _ hw132_9)).trans hw132_9), ((HB.out.cell (World.block_lt_of_cell? w _ hw132_10)).trans hw132_10), ((HB.out.cell (World.block_lt_of_cell? w _ hw132_11)).trans hw132_11), ((HB.out.cell (World.block_lt_of_cell? w _ hw132_12)).trans hw132_12), ((HB.out.cell (World.block_lt_of_cell? w _ hw132_13)).trans hw132_13)⟩ (fun hHeld => ?_); refine with_tabW clepsydraref15_Choose.tab5 clepsydraref15_Choose.bits5 (fun HT_ HW_ => ?_)
                      generalize w23.drew = w24 at BK128 BK130 HB HR132_13 hx132_0 hx132_1 hx132_10 hx132_11 hx132_12 hx132_13 hx132_2 hx132_3 hx132_4 hx132_5 hx132_6 hx132_7 hx132_8 hx132_9 hHeld ⊢
                      refine take_ (i := 0) (N := some 15) (v := ?_) (a' := ?_) #[true, false, false, false, false, false, false, false, false, false, false, false, false, false, false] rfl rfl (take_ofW HT_.out HW_.out (by kernel_rfl)) (fun _ _ _ h => h) (Or.inl ⟨by rfl, ?_⟩) hHeld ?_ ?_
                      rotate_left
                      · rintro w' ⟨s0, s1, s2, s3, s4, s5, s6, s7, s8, s9, s10, s11, s12, s13, s14, s15, s16, s17, s18, s19, s20, s21, s22, s23, s24, s25, s26, s27, s28, s29, s30, s31, s32, s33, s34, s35, s36, s37, s38, s39⟩
                        go_simp
                        with_reducible rfl
                      rotate_left
                      · simp only [Act.put, List.setIfInBounds_toArray, List.set_cons_zero, List.set_cons_succ, i64_w, i32_w]
                        rfl
                      refine take_ (i := 1) (N := some 16) (v := ?_) (a' := ?_) #[true, true, false, false, false, false, false, false, false, false, false, false, false, false, false] rfl rfl (take_ofW HT_.out HW_.out (by kernel_rfl)) (fun _ _ _ h => h) (Or.inl ⟨by rfl, ?_⟩) hHeld ?_ ?_
                      rotate_left
                      · rintro w' ⟨s0, s1, s2, s3, s4, s5, s6, s7, s8, s9, s10, s11, s12, s13, s14, s15, s16, s17, s18, s19, s20, s21, s22, s23, s24, s25, s26, s27, s28, s29, s30, s31, s32, s33, s34, s35, s36, s37, s38, s39⟩
                        go_simp
                        with_reducible rfl
                      rotate_left
                      · simp only [Act.put, List.setIfInBounds_toArray, List.set_cons_zero, List.set_cons_succ, i64_w, i32_w]
                        rfl
                      refine one_ (i := 2) (N := some 17) #[true, true, true, false, false, false, false, false, false, false, false, false, false, false, false] rfl rfl (one_of HT_.out (by kernel_rfl)) (by decide) (fun K hK => ?_)
                      refine goes_ Try.func18 (by kernel_rfl) rfl #[.agg #[.int .i64 a0_0, .int .i64 a0_1, .int .i64 a0_2, .int .i64 a0_3, .int .i64 a0_4, .int .i64 a0_5, .int .i64 a0_6, .int .i64 a0_7, .int .i64 a0_8, .int .i64 a0_9, .int .i64 a0_10, .int .i64 a0_11], .agg #[.int .i64 ((rd_T38 l1 x10_1).f0), .int .i64 ((rd_T38 l1 x10_1).f1), .int .i64 ((rd_T38 l1 x10_1).f2.f0), .int .i64 ((rd_T38 l1 x10_1).f2.f1), .int .i64 ((rd_T38 l1 x10_1).f3), .int .i64 ((rd_T38 l1 x10_1).f4), .bool ((rd_T38 l1 x10_1).f5), .bool ((rd_T38 l1 x10_1).f6), .int .i64 ((rd_T38 l1 x10_1).f7.f0), .int .i64 ((rd_T38 l1 x10_1).f7.f1), .int .i64 ((rd_T38 l1 x10_1).f8), .int .i64 ((rd_T38 l1 x10_1).f9.f0), .int .i64 ((rd_T38 l1 x10_1).f9.f1), .slice A129_13 ((rd_T38 l1 x10_1).f10).length c129_13]] (by rfl) rfl rfl (by (try simp only [List.map_toArray, List.map_cons, List.map_nil]); first | done | rfl | (simp only [List.length_drop, List.length_take]; rfl)) ?_
                      with_reducible refine (clepsydraref15_Usable.calls a0_0 a0_1 a0_2 a0_3 a0_4 a0_5 a0_6 a0_7 a0_8 a0_9 a0_10 a0_11 ((rd_T38 l1 x10_1).f0) ((rd_T38 l1 x10_1).f1) ((rd_T38 l1 x10_1).f2.f0) ((rd_T38 l1 x10_1).f2.f1) ((rd_T38 l1 x10_1).f3) ((rd_T38 l1 x10_1).f4) ((rd_T38 l1 x10_1).f5) ((rd_T38 l1 x10_1).f6) ((rd_T38 l1 x10_1).f7.f0) ((rd_T38 l1 x10_1).f7.f1) ((rd_T38 l1 x10_1).f8) ((rd_T38 l1 x10_1).f9.f0) ((rd_T38 l1 x10_1).f9.f1) _ _ ((rd_T38 l1 x10_1).f10) true _ ?side1 ?side2 A7.out).mono ?_
                      (case side1 => repeat (first | exact (Kd.C_below HR129_13.out HB.out) | (with_reducible refine Kd.C_alloc ?_ _) | (with_reducible refine Kd.C_drewN ?_ _) | (with_reducible refine Kd.C_drew ?_)))
                      (case side2 => exact HC129_13.out)
                      rintro e w25 ⟨rfl, hb⟩
                      refine ⟨_, rfl, ?_⟩
                      have n0_ := Aside0.mk (blk_below (g := gb128) (o := .cells #[.int .i64 a0_0, .int .i64 a0_1, .int .i64 a0_2, .int .i64 a0_3, .int .i64 a0_4, .int .i64 a0_5, .int .i64 a0_6, .int .i64 a0_7, .int .i64 a0_8, .int .i64 a0_9, .int .i64 a0_10, .int .i64 a0_11] 23 (0, 0)) (by (with_reducible repeat (first | refine blk_drewN ?_ _ | refine blk_drew ?_ | refine blk_alloc ?_ _)); exact BK128.out) hb)
                      have n1_ := Aside0.mk (blk_below (g := gb130) (o := .cells #[.int .i64 ((rd_T38 l1 x10_1).f0), .int .i64 ((rd_T38 l1 x10_1).f1), .int .i64 ((rd_T38 l1 x10_1).f2.f0), .int .i64 ((rd_T38 l1 x10_1).f2.f1), .int .i64 ((rd_T38 l1 x10_1).f3), .int .i64 ((rd_T38 l1 x10_1).f4), .bool ((rd_T38 l1 x10_1).f5), .bool ((rd_T38 l1 x10_1).f6), .int .i64 ((rd_T38 l1 x10_1).f7.f0), .int .i64 ((rd_T38 l1 x10_1).f7.f1), .int .i64 ((rd_T38 l1 x10_1).f8), .int .i64 ((rd_T38 l1 x10_1).f9.f0), .int .i64 ((rd_T38 l1 x10_1).f9.f1), .slice A129_13 ((rd_T38 l1 x10_1).f10).length c129_13] 38 (0, 0)) (by (with_reducible repeat (first | refine blk_drewN ?_ _ | refine blk_drew ?_ | refine blk_alloc ?_ _)); exact BK130.out) hb)
                      have n2_ := Aside0.mk (below_step (by repeat (first | (with_reducible first | exact HB.out | apply below_alloc | apply pw_below_drewN | apply below_drew1 | refine below_set ?_ GE128.out | refine below_set ?_ GE130.out) | exact HB.out)) hb)
                      clear BK128
                      clear BK130
                      clear HB
                      have BK128 := n0_
                      have BK130 := n1_
                      have HB := n2_
                      clear n0_ n1_ n2_
                      (try clear hb)
                      (try clear hb2)
                      (try clear hk)
                      (try clear hi)
                      refine hK.out _ _ ⟨(blk_cell BK128.out 0).trans rfl, (blk_cell BK128.out 1).trans rfl, (blk_cell BK128.out 2).trans rfl, (blk_cell BK128.out 3).trans rfl, (blk_cell BK128.out 4).trans rfl, (blk_cell BK128.out 5).trans rfl, (blk_cell BK128.out 6).trans rfl, (blk_cell BK128.out 7).trans rfl, (blk_cell BK128.out 8).trans rfl, (blk_cell BK128.out 9).trans rfl, (blk_cell BK128.out 10).trans rfl, (blk_cell BK128.out 11).trans rfl, (blk_cell BK130.out 0).trans rfl, (blk_cell BK130.out 1).trans rfl, (blk_cell BK130.out 2).trans rfl, (blk_cell BK130.out 3).trans rfl, (blk_cell BK130.out 4).trans rfl, (blk_cell BK130.out 5).trans rfl, (blk_cell BK130.out 6).trans rfl, (blk_cell BK130.out 7).trans rfl, (blk_cell BK130.out 8).trans rfl, (blk_cell BK130.out 9).trans rfl, (blk_cell BK130.out 10).trans rfl, (blk_cell BK130.out 11).trans rfl, (blk_cell BK130.out 12).trans rfl, (blk_cell BK130.out 13).trans rfl, ((HB.out.cell (World.block_lt_of_cell? w _ hw132_0)).trans hw132_0), ((HB.out.cell (World.block_lt_of_cell? w _ hw132_1)).trans hw132_1), ((HB.out.cell (World.block_lt_of_cell? w _ hw132_2)).trans hw132_2), ((HB.out.cell (World.block_lt_of_cell? w _ hw132_3)).trans hw132_3), ((HB.out.cell (World.block_lt_of_cell? w _ hw132_4)).trans hw132_4), ((HB.out.cell (World.block_lt_of_cell? w _ hw132_5)).trans hw132_5), ((HB.out.cell (World.block_lt_of_cell? w _ hw132_6)).trans hw132_6), ((HB.out.cell (World.block_lt_of_cell? w _ hw132_7)).trans hw132_7), ((HB.out.cell (World.block_lt_of_cell? w _ hw132_8)).trans hw132_8), ((HB.out.cell (World.block_lt_of_cell? w _ hw132_9)).trans hw132_9), ((HB.out.cell (World.block_lt_of_cell? w _ hw132_10)).trans hw132_10), ((HB.out.cell (World.block_lt_of_cell? w _ hw132_11)).trans hw132_11), ((HB.out.cell (World.block_lt_of_cell? w _ hw132_12)).trans hw132_12), ((HB.out.cell (World.block_lt_of_cell? w _ hw132_13)).trans hw132_13)⟩ (fun hHeld => ?_)
                      clear hK K
                      refine norm_ (a' := ?_) ?_ ?_
                      rotate_left
                      · show Act.put _ (some 17) _ = _
                        simp only [Act.put, List.setIfInBounds_toArray, List.set_cons_zero, List.set_cons_succ, i64_w, i32_w]
                        rfl
                      refine pure_ (i := 3) (N := some 18) (v := ?_) (a' := ?_) #[true, true, true, true, false, false, false, false, false, false, false, false, false, false, false] rfl rfl (any_of HT_.out (by kernel_rfl)) (fun _ _ _ h => h) (Or.inl ⟨by rfl, ?_⟩) ?_ ?_
                      rotate_left
                      · intro w'
                        go_simp
                        with_reducible rfl
                      rotate_left
                      · simp only [Act.put, List.setIfInBounds_toArray, List.set_cons_zero, List.set_cons_succ, i64_w, i32_w]
                        rfl
                      refine pure_ (i := 4) (N := some 19) (v := ?_) (a' := ?_) #[true, true, true, true, true, false, false, false, false, false, false, false, false, false, false] rfl rfl (any_of HT_.out (by kernel_rfl)) (fun _ _ _ h => h) (Or.inl ⟨by rfl, ?_⟩) ?_ ?_
                      rotate_left
                      · intro w'
                        go_simp
                        with_reducible rfl
                      rotate_left
                      · simp only [Act.put, List.setIfInBounds_toArray, List.set_cons_zero, List.set_cons_succ, i64_w, i32_w]
                        rfl
                      refine pure_ (i := 5) (N := some 20) (v := ?_) (a' := ?_) #[true, true, true, true, true, true, false, false, false, false, false, false, false, false, false] rfl rfl (any_of HT_.out (by kernel_rfl)) (fun _ _ _ h => h) (Or.inl ⟨by rfl, ?_⟩) ?_ ?_
                      rotate_left
                      · intro w'
                        go_simp
                        with_reducible rfl
                      rotate_left
                      · simp only [Act.put, List.setIfInBounds_toArray, List.set_cons_zero, List.set_cons_succ, i64_w, i32_w]
                        rfl
                      refine pure_ (i := 6) (N := some 21) (v := ?_) (a' := ?_) #[true, true, true, true, true, true, true, false, false, false, false, false, false, false, false] rfl rfl (any_of HT_.out (by kernel_rfl)) (fun _ _ _ h => h) (Or.inl ⟨by rfl, ?_⟩) ?_ ?_
                      rotate_left
                      · intro w'
                        go_simp
                        with_reducible rfl
                      rotate_left
                      · simp only [Act.put, List.setIfInBounds_toArray, List.set_cons_zero, List.set_cons_succ, i64_w, i32_w]
                        rfl
                      refine pure_ (i := 8) (N := some 23) (v := ?_) (a' := ?_) #[true, true, true, true, true, true, true, false, true, false, false, false, false, false, false] rfl rfl (any_of HT_.out (by kernel_rfl)) (fun _ _ _ h => h) (Or.inl ⟨by rfl, ?_⟩) ?_ ?_
                      rotate_left
                      · intro w'
                        go_simp
                        with_reducible rfl
                      rotate_left
                      · simp only [Act.put, List.setIfInBounds_toArray, List.set_cons_zero, List.set_cons_succ, i64_w, i32_w]
                        rfl
                      refine pure_ (i := 9) (N := some 24) (v := ?_) (a' := ?_) #[true, true, true, true, true, true, true, false, true, true, false, false, false, false, false] rfl rfl (any_of HT_.out (by kernel_rfl)) (fun _ _ _ h => h) (Or.inl ⟨by rfl, ?_⟩) ?_ ?_
                      rotate_left
                      · intro w'
                        go_simp
                        with_reducible rfl
                      rotate_left
                      · simp only [Act.put, List.setIfInBounds_toArray, List.set_cons_zero, List.set_cons_succ, i64_w, i32_w]
                        rfl
                      refine pure_ (i := 10) (N := some 25) (v := ?_) (a' := ?_) #[true, true, true, true, true, true, true, false, true, true, true, false, false, false, false] rfl rfl (any_of HT_.out (by kernel_rfl)) (fun _ _ _ h => h) (Or.inl ⟨by rfl, ?_⟩) ?_ ?_
                      rotate_left
                      · intro w'
                        go_simp
                        with_reducible rfl
                      rotate_left
                      · simp only [Act.put, List.setIfInBounds_toArray, List.set_cons_zero, List.set_cons_succ, i64_w, i32_w]
                        rfl
                      refine take_ (i := 7) (N := some 22) (v := ?_) (a' := ?_) #[true, true, true, true, true, true, true, true, true, true, true, false, false, false, false] rfl rfl (take_ofW HT_.out HW_.out (by kernel_rfl)) (fun _ _ _ h => h) (Or.inl ⟨by rfl, ?_⟩) hHeld ?_ ?_
                      rotate_left
                      · rintro w' ⟨s0, s1, s2, s3, s4, s5, s6, s7, s8, s9, s10, s11, s12, s13, s14, s15, s16, s17, s18, s19, s20, s21, s22, s23, s24, s25, s26, s27, s28, s29, s30, s31, s32, s33, s34, s35, s36, s37, s38, s39⟩
                        go_simp
                        with_reducible rfl
                      rotate_left
                      · simp only [Act.put, List.setIfInBounds_toArray, List.set_cons_zero, List.set_cons_succ, i64_w, i32_w]
                        rfl
                      refine take_ (i := 11) (N := some 26) (v := ?_) (a' := ?_) #[true, true, true, true, true, true, true, true, true, true, true, true, false, false, false] rfl rfl (take_ofW HT_.out HW_.out (by kernel_rfl)) (fun _ _ _ h => h) (Or.inl ⟨by rfl, ?_⟩) hHeld ?_ ?_
                      rotate_left
                      · rintro w' ⟨s0, s1, s2, s3, s4, s5, s6, s7, s8, s9, s10, s11, s12, s13, s14, s15, s16, s17, s18, s19, s20, s21, s22, s23, s24, s25, s26, s27, s28, s29, s30, s31, s32, s33, s34, s35, s36, s37, s38, s39⟩
                        go_simp
                        with_reducible rfl
                      rotate_left
                      · simp only [Act.put, List.setIfInBounds_toArray, List.set_cons_zero, List.set_cons_succ, i64_w, i32_w]
                        rfl
                      refine one_ (i := 12) (N := some 27) #[true, true, true, true, true, true, true, true, true, true, true, true, true, false, false] rfl rfl (one_of HT_.out (by kernel_rfl)) (by decide) (fun K hK => ?_)
                      refine goes_ Try.func37 (by kernel_rfl) rfl #[.agg #[.int .i64 ((rd_T38 l1 x10_1).f0), .int .i64 ((rd_T38 l1 x10_1).f1), .int .i64 ((rd_T38 l1 x10_1).f2.f0), .int .i64 ((rd_T38 l1 x10_1).f2.f1), .int .i64 ((rd_T38 l1 x10_1).f3), .int .i64 ((rd_T38 l1 x10_1).f4), .bool ((rd_T38 l1 x10_1).f5), .bool ((rd_T38 l1 x10_1).f6), .int .i64 ((rd_T38 l1 x10_1).f7.f0), .int .i64 ((rd_T38 l1 x10_1).f7.f1), .int .i64 ((rd_T38 l1 x10_1).f8), .int .i64 ((rd_T38 l1 x10_1).f9.f0), .int .i64 ((rd_T38 l1 x10_1).f9.f1), .slice A129_13 ((rd_T38 l1 x10_1).f10).length c129_13], .agg #[.int .i64 ((rd_T38 l1 x5_1).f0), .int .i64 ((rd_T38 l1 x5_1).f1), .int .i64 ((rd_T38 l1 x5_1).f2.f0), .int .i64 ((rd_T38 l1 x5_1).f2.f1), .int .i64 ((rd_T38 l1 x5_1).f3), .int .i64 ((rd_T38 l1 x5_1).f4), .bool ((rd_T38 l1 x5_1).f5), .bool ((rd_T38 l1 x5_1).f6), .int .i64 ((rd_T38 l1 x5_1).f7.f0), .int .i64 ((rd_T38 l1 x5_1).f7.f1), .int .i64 ((rd_T38 l1 x5_1).f8), .int .i64 ((rd_T38 l1 x5_1).f9.f0), .int .i64 ((rd_T38 l1 x5_1).f9.f1), .slice A132_13 ((rd_T38 l1 x5_1).f10).length c132_13]] (by rfl) rfl rfl (by (try simp only [List.map_toArray, List.map_cons, List.map_nil]); first | done | rfl | (simp only [List.length_drop, List.length_take]; rfl)) ?_
                      with_reducible refine (clepsydraref15_before.calls ((rd_T38 l1 x10_1).f0) ((rd_T38 l1 x10_1).f1) ((rd_T38 l1 x10_1).f2.f0) ((rd_T38 l1 x10_1).f2.f1) ((rd_T38 l1 x10_1).f3) ((rd_T38 l1 x10_1).f4) ((rd_T38 l1 x10_1).f5) ((rd_T38 l1 x10_1).f6) ((rd_T38 l1 x10_1).f7.f0) ((rd_T38 l1 x10_1).f7.f1) ((rd_T38 l1 x10_1).f8) ((rd_T38 l1 x10_1).f9.f0) ((rd_T38 l1 x10_1).f9.f1) _ _ ((rd_T38 l1 x10_1).f10) ((rd_T38 l1 x5_1).f0) ((rd_T38 l1 x5_1).f1) ((rd_T38 l1 x5_1).f2.f0) ((rd_T38 l1 x5_1).f2.f1) ((rd_T38 l1 x5_1).f3) ((rd_T38 l1 x5_1).f4) ((rd_T38 l1 x5_1).f5) ((rd_T38 l1 x5_1).f6) ((rd_T38 l1 x5_1).f7.f0) ((rd_T38 l1 x5_1).f7.f1) ((rd_T38 l1 x5_1).f8) ((rd_T38 l1 x5_1).f9.f0) ((rd_T38 l1 x5_1).f9.f1) _ _ ((rd_T38 l1 x5_1).f10) true _ ?side1 ?side2 ?side3 ?side4 A18.out).mono ?_
                      (case side1 => repeat (first | exact (Kd.C_below HR129_13.out HB.out) | (with_reducible refine Kd.C_alloc ?_ _) | (with_reducible refine Kd.C_drewN ?_ _) | (with_reducible refine Kd.C_drew ?_)))
                      (case side2 => exact HC129_13.out)
                      (case side3 => repeat (first | exact (Kd.C_below HR132_13.out HB.out) | (with_reducible refine Kd.C_alloc ?_ _) | (with_reducible refine Kd.C_drewN ?_ _) | (with_reducible refine Kd.C_drew ?_)))
                      (case side4 => exact HC132_13.out)
                      rintro e w26 ⟨rfl, hb⟩
                      refine ⟨_, rfl, ?_⟩
                      have n0_ := Aside0.mk (blk_below (g := gb128) (o := .cells #[.int .i64 a0_0, .int .i64 a0_1, .int .i64 a0_2, .int .i64 a0_3, .int .i64 a0_4, .int .i64 a0_5, .int .i64 a0_6, .int .i64 a0_7, .int .i64 a0_8, .int .i64 a0_9, .int .i64 a0_10, .int .i64 a0_11] 23 (0, 0)) (by (with_reducible repeat (first | refine blk_drewN ?_ _ | refine blk_drew ?_ | refine blk_alloc ?_ _)); exact BK128.out) hb)
                      have n1_ := Aside0.mk (blk_below (g := gb130) (o := .cells #[.int .i64 ((rd_T38 l1 x10_1).f0), .int .i64 ((rd_T38 l1 x10_1).f1), .int .i64 ((rd_T38 l1 x10_1).f2.f0), .int .i64 ((rd_T38 l1 x10_1).f2.f1), .int .i64 ((rd_T38 l1 x10_1).f3), .int .i64 ((rd_T38 l1 x10_1).f4), .bool ((rd_T38 l1 x10_1).f5), .bool ((rd_T38 l1 x10_1).f6), .int .i64 ((rd_T38 l1 x10_1).f7.f0), .int .i64 ((rd_T38 l1 x10_1).f7.f1), .int .i64 ((rd_T38 l1 x10_1).f8), .int .i64 ((rd_T38 l1 x10_1).f9.f0), .int .i64 ((rd_T38 l1 x10_1).f9.f1), .slice A129_13 ((rd_T38 l1 x10_1).f10).length c129_13] 38 (0, 0)) (by (with_reducible repeat (first | refine blk_drewN ?_ _ | refine blk_drew ?_ | refine blk_alloc ?_ _)); exact BK130.out) hb)
                      have n2_ := Aside0.mk (below_step (by repeat (first | (with_reducible first | exact HB.out | apply below_alloc | apply pw_below_drewN | apply below_drew1 | refine below_set ?_ GE128.out | refine below_set ?_ GE130.out) | exact HB.out)) hb)
                      clear BK128
                      clear BK130
                      clear HB
                      have BK128 := n0_
                      have BK130 := n1_
                      have HB := n2_
                      clear n0_ n1_ n2_
                      (try clear hb)
                      (try clear hb2)
                      (try clear hk)
                      (try clear hi)
                      refine hK.out _ _ ⟨(blk_cell BK128.out 0).trans rfl, (blk_cell BK128.out 1).trans rfl, (blk_cell BK128.out 2).trans rfl, (blk_cell BK128.out 3).trans rfl, (blk_cell BK128.out 4).trans rfl, (blk_cell BK128.out 5).trans rfl, (blk_cell BK128.out 6).trans rfl, (blk_cell BK128.out 7).trans rfl, (blk_cell BK128.out 8).trans rfl, (blk_cell BK128.out 9).trans rfl, (blk_cell BK128.out 10).trans rfl, (blk_cell BK128.out 11).trans rfl, (blk_cell BK130.out 0).trans rfl, (blk_cell BK130.out 1).trans rfl, (blk_cell BK130.out 2).trans rfl, (blk_cell BK130.out 3).trans rfl, (blk_cell BK130.out 4).trans rfl, (blk_cell BK130.out 5).trans rfl, (blk_cell BK130.out 6).trans rfl, (blk_cell BK130.out 7).trans rfl, (blk_cell BK130.out 8).trans rfl, (blk_cell BK130.out 9).trans rfl, (blk_cell BK130.out 10).trans rfl, (blk_cell BK130.out 11).trans rfl, (blk_cell BK130.out 12).trans rfl, (blk_cell BK130.out 13).trans rfl, ((HB.out.cell (World.block_lt_of_cell? w _ hw132_0)).trans hw132_0), ((HB.out.cell (World.block_lt_of_cell? w _ hw132_1)).trans hw132_1), ((HB.out.cell (World.block_lt_of_cell? w _ hw132_2)).trans hw132_2), ((HB.out.cell (World.block_lt_of_cell? w _ hw132_3)).trans hw132_3), ((HB.out.cell (World.block_lt_of_cell? w _ hw132_4)).trans hw132_4), ((HB.out.cell (World.block_lt_of_cell? w _ hw132_5)).trans hw132_5), ((HB.out.cell (World.block_lt_of_cell? w _ hw132_6)).trans hw132_6), ((HB.out.cell (World.block_lt_of_cell? w _ hw132_7)).trans hw132_7), ((HB.out.cell (World.block_lt_of_cell? w _ hw132_8)).trans hw132_8), ((HB.out.cell (World.block_lt_of_cell? w _ hw132_9)).trans hw132_9), ((HB.out.cell (World.block_lt_of_cell? w _ hw132_10)).trans hw132_10), ((HB.out.cell (World.block_lt_of_cell? w _ hw132_11)).trans hw132_11), ((HB.out.cell (World.block_lt_of_cell? w _ hw132_12)).trans hw132_12), ((HB.out.cell (World.block_lt_of_cell? w _ hw132_13)).trans hw132_13)⟩ (fun hHeld => ?_)
                      clear hK K
                      refine norm_ (a' := ?_) ?_ ?_
                      rotate_left
                      · show Act.put _ (some 27) _ = _
                        simp only [Act.put, List.setIfInBounds_toArray, List.set_cons_zero, List.set_cons_succ, i64_w, i32_w]
                        rfl
                      refine pure_ (i := 13) (N := some 28) (v := ?_) (a' := ?_) #[true, true, true, true, true, true, true, true, true, true, true, true, true, true, false] rfl rfl (any_of HT_.out (by kernel_rfl)) (fun _ _ _ h => h) (Or.inl ⟨by rfl, ?_⟩) ?_ ?_
                      rotate_left
                      · intro w'
                        go_simp
                        with_reducible rfl
                      rotate_left
                      · simp only [Act.put, List.setIfInBounds_toArray, List.set_cons_zero, List.set_cons_succ, i64_w, i32_w]
                        rfl
                      refine pure_ (i := 14) (N := some 29) (v := ?_) (a' := ?_) #[true, true, true, true, true, true, true, true, true, true, true, true, true, true, true] rfl rfl (any_of HT_.out (by kernel_rfl)) (fun _ _ _ h => h) (Or.inl ⟨by rfl, ?_⟩) ?_ ?_
                      rotate_left
                      · intro w'
                        go_simp
                        with_reducible rfl
                      rotate_left
                      · simp only [Act.put, List.setIfInBounds_toArray, List.set_cons_zero, List.set_cons_succ, i64_w, i32_w]
                        rfl
                      refine done_ (done_of HT_.out (by kernel_rfl)) ?_
                      try go_wp2
                      go_roundg k1
                      case measure => have := HK1.out; omega
                      case rel => exact ⟨(x10_1), (wrap64 (x10_1 + 1)), (by first | rfl | (simp; done) | (simp [*]; done)), (by first | rfl | (simp; done) | (simp [*]; done)), H', ⟨by have := HK1.out; omega⟩, ⟨by (with_reducible repeat (first | refine blk_drewN ?_ _ | refine blk_drew ?_ | refine blk_alloc ?_ _)); exact BK128.out⟩, ⟨by repeat (first | (with_reducible first | exact HB.out | apply below_alloc | apply pw_below_drewN | apply below_drew1 | refine below_set ?_ GE128.out | refine below_set ?_ GE130.out) | exact HB.out)⟩⟩
                    · replace c19 := Bool.eq_false_iff.mpr c19
                      subst c19
                      have H1 : (clepsydraref15_Choose.l0 k1 l1 x5_1 l1 (l1.length : Int) (wrap64 (x10_1 + 1)) a0_0 a0_1 a0_2 a0_3 a0_4 a0_5 a0_6 a0_7 a0_8 a0_9 a0_10 a0_11) = some r := by rw [if_neg (show ¬ (false = true) by decide)] at H; exact H
                      clear H
                      have H := H1
                      clear H1
                      have H' := Aside0.mk H
                      clear H
                      have p129 : 0 ≤ (x10_1 : Int) := of_decide_eq_true (by first | (with_reducible assumption) | assumption)
                      have q129 : x10_1 < (l1.length : Int) := of_decide_eq_true (by first | (with_reducible assumption) | assumption)
                      obtain ⟨ad129, A129_13, c129_13, e129, hx129_0, hx129_1, hx129_2, hx129_3, hx129_4, hx129_5, hx129_6, hx129_7, hx129_8, hx129_9, hx129_10, hx129_11, hx129_12, hx129_13, hl129_13, hi129_13⟩ := at_T38 HR1.out x10_1 p129 q129
                      cases e129
                      replace hx129_0 := (HB.out.cell (World.block_lt_of_cell? w _ hx129_0)).trans hx129_0
                      replace hx129_1 := (HB.out.cell (World.block_lt_of_cell? w _ hx129_1)).trans hx129_1
                      replace hx129_2 := (HB.out.cell (World.block_lt_of_cell? w _ hx129_2)).trans hx129_2
                      replace hx129_3 := (HB.out.cell (World.block_lt_of_cell? w _ hx129_3)).trans hx129_3
                      replace hx129_4 := (HB.out.cell (World.block_lt_of_cell? w _ hx129_4)).trans hx129_4
                      replace hx129_5 := (HB.out.cell (World.block_lt_of_cell? w _ hx129_5)).trans hx129_5
                      replace hx129_6 := (HB.out.cell (World.block_lt_of_cell? w _ hx129_6)).trans hx129_6
                      replace hx129_7 := (HB.out.cell (World.block_lt_of_cell? w _ hx129_7)).trans hx129_7
                      replace hx129_8 := (HB.out.cell (World.block_lt_of_cell? w _ hx129_8)).trans hx129_8
                      replace hx129_9 := (HB.out.cell (World.block_lt_of_cell? w _ hx129_9)).trans hx129_9
                      replace hx129_10 := (HB.out.cell (World.block_lt_of_cell? w _ hx129_10)).trans hx129_10
                      replace hx129_11 := (HB.out.cell (World.block_lt_of_cell? w _ hx129_11)).trans hx129_11
                      replace hx129_12 := (HB.out.cell (World.block_lt_of_cell? w _ hx129_12)).trans hx129_12
                      replace hx129_13 := (HB.out.cell (World.block_lt_of_cell? w _ hx129_13)).trans hx129_13
                      have HR129_13 := Aside0.mk hi129_13
                      have HC129_13 := Aside0.mk hl129_13
                      clear hi129_13 hl129_13
                      replace p129 := eq_true p129
                      replace q129 := eq_true q129
                      try go_wp2_with (first | ((with_reducible refine gate_dst (N := 7) rfl ?_); refine box_event ?hg (N := 7) ?hd (cs := #[.int .i64 0, .int .i64 0, .int .i64 0, .int .i64 0, .int .i64 0, .int .i64 0, .bool false, .bool false, .int .i64 0, .int .i64 0, .int .i64 0, .int .i64 0, .int .i64 0, .slice none 0 0]) (t := 38) ?hr ?_; (case hd => rfl); (case hg => rfl); (case hr => first | (go_simp; done) | (go_simp; rfl)); intro gb130 hg w27 hbox hb; have n0_ := Aside0.mk (blk_below (g := gb128) (o := .cells #[.int .i64 a0_0, .int .i64 a0_1, .int .i64 a0_2, .int .i64 a0_3, .int .i64 a0_4, .int .i64 a0_5, .int .i64 a0_6, .int .i64 a0_7, .int .i64 a0_8, .int .i64 a0_9, .int .i64 a0_10, .int .i64 a0_11] 23 (0, 0)) (by (with_reducible repeat (first | refine blk_drewN ?_ _ | refine blk_drew ?_ | refine blk_alloc ?_ _)); exact BK128.out) hb); have n1_ := Aside0.mk (below_step (by repeat (first | (with_reducible first | exact HB.out | apply below_alloc | apply pw_below_drewN | apply below_drew1 | refine below_set ?_ GE128.out) | exact HB.out)) hb); have n2_ := Aside0.mk (hbox); have n3_ := Aside0.mk ((by rw [hg]; exact (below_size (by repeat (first | (with_reducible first | exact HB.out | apply below_alloc | apply pw_below_drewN | apply below_drew1 | refine below_set ?_ GE128.out) | exact HB.out))) : w.heap.size ≤ gb130)); have n4_ := Aside0.mk ((by rw [hg]; exact (below_size (by repeat (first | (with_reducible first | exact HB.out | apply below_alloc | apply pw_below_drewN | apply below_drew1 | refine below_set ?_ GE128.out) | exact HB.out))) : w.heap.size ≤ gb130)); have n5_ := Aside0.mk ((by rw [hg]; exact Nat.ne_of_lt (blk_lt (g := gb128) (o := .cells #[.int .i64 a0_0, .int .i64 a0_1, .int .i64 a0_2, .int .i64 a0_3, .int .i64 a0_4, .int .i64 a0_5, .int .i64 a0_6, .int .i64 a0_7, .int .i64 a0_8, .int .i64 a0_9, .int .i64 a0_10, .int .i64 a0_11] 23 (0, 0)) (by (with_reducible repeat (first | refine blk_drewN ?_ _ | refine blk_drew ?_ | refine blk_alloc ?_ _)); exact BK128.out)) : gb128 ≠ gb130)); have n6_ := Aside0.mk ((by rw [hg]; exact Nat.ne_of_gt (blk_lt (g := gb128) (o := .cells #[.int .i64 a0_0, .int .i64 a0_1, .int .i64 a0_2, .int .i64 a0_3, .int .i64 a0_4, .int .i64 a0_5, .int .i64 a0_6, .int .i64 a0_7, .int .i64 a0_8, .int .i64 a0_9, .int .i64 a0_10, .int .i64 a0_11] 23 (0, 0)) (by (with_reducible repeat (first | refine blk_drewN ?_ _ | refine blk_drew ?_ | refine blk_alloc ?_ _)); exact BK128.out)) : gb130 ≠ gb128)); clear BK128; clear HB; have BK128 := n0_; have HB := n1_; have BK130 := n2_; have GW130 := n3_; have GE130 := n4_; have NB128_130 := n5_; have NB130_128 := n6_; clear n0_ n1_ n2_ n3_ n4_ n5_ n6_; clear hb hbox hg; have hnb28 := NB130_128.out; have hnc28 := NB128_130.out; have hcz29_0 : w27.cell? ⟨gb130, 0, none⟩ = some (.int .i64 0) := (blk_cell BK130.out 0).trans rfl; have hcz29_1 : w27.cell? ⟨gb130, 1, none⟩ = some (.int .i64 0) := (blk_cell BK130.out 1).trans rfl; have hcz29_2 : w27.cell? ⟨gb130, 2, none⟩ = some (.int .i64 0) := (blk_cell BK130.out 2).trans rfl; have hcz29_3 : w27.cell? ⟨gb130, 3, none⟩ = some (.int .i64 0) := (blk_cell BK130.out 3).trans rfl; have hcz29_4 : w27.cell? ⟨gb130, 4, none⟩ = some (.int .i64 0) := (blk_cell BK130.out 4).trans rfl; have hcz29_5 : w27.cell? ⟨gb130, 5, none⟩ = some (.int .i64 0) := (blk_cell BK130.out 5).trans rfl; have hcz29_6 : w27.cell? ⟨gb130, 6, none⟩ = some (.bool false) := (blk_cell BK130.out 6).trans rfl; have hcz29_7 : w27.cell? ⟨gb130, 7, none⟩ = some (.bool false) := (blk_cell BK130.out 7).trans rfl; have hcz29_8 : w27.cell? ⟨gb130, 8, none⟩ = some (.int .i64 0) := (blk_cell BK130.out 8).trans rfl; have hcz29_9 : w27.cell? ⟨gb130, 9, none⟩ = some (.int .i64 0) := (blk_cell BK130.out 9).trans rfl; have hcz29_10 : w27.cell? ⟨gb130, 10, none⟩ = some (.int .i64 0) := (blk_cell BK130.out 10).trans rfl; have hcz29_11 : w27.cell? ⟨gb130, 11, none⟩ = some (.int .i64 0) := (blk_cell BK130.out 11).trans rfl; have hcz29_12 : w27.cell? ⟨gb130, 12, none⟩ = some (.int .i64 0) := (blk_cell BK130.out 12).trans rfl; have hcz29_13 : w27.cell? ⟨gb130, 13, none⟩ = some (.slice none 0 0) := (blk_cell BK130.out 13).trans rfl; have hfz29_0 := blk_frozen BK130.out 0; have hfz29_1 := blk_frozen BK130.out 1; have hfz29_2 := blk_frozen BK130.out 2; have hfz29_3 := blk_frozen BK130.out 3; have hfz29_4 := blk_frozen BK130.out 4; have hfz29_5 := blk_frozen BK130.out 5; have hfz29_6 := blk_frozen BK130.out 6; have hfz29_7 := blk_frozen BK130.out 7; have hfz29_8 := blk_frozen BK130.out 8; have hfz29_9 := blk_frozen BK130.out 9; have hfz29_10 := blk_frozen BK130.out 10; have hfz29_11 := blk_frozen BK130.out 11; have hfz29_12 := blk_frozen BK130.out 12; have hfz29_13 := blk_frozen BK130.out 13))
                      have n0_ : Aside0 (((((((((((((((w27.setCell ⟨gb130, 0, none⟩ (.int .i64 ((rd_T38 l1 x10_1).f0))).setCell ⟨gb130, 1, none⟩ (.int .i64 ((rd_T38 l1 x10_1).f1))).setCell ⟨gb130, 2, none⟩ (.int .i64 ((rd_T38 l1 x10_1).f2.f0))).setCell ⟨gb130, 3, none⟩ (.int .i64 ((rd_T38 l1 x10_1).f2.f1))).setCell ⟨gb130, 4, none⟩ (.int .i64 ((rd_T38 l1 x10_1).f3))).setCell ⟨gb130, 5, none⟩ (.int .i64 ((rd_T38 l1 x10_1).f4))).setCell ⟨gb130, 6, none⟩ (.bool ((rd_T38 l1 x10_1).f5))).setCell ⟨gb130, 7, none⟩ (.bool ((rd_T38 l1 x10_1).f6))).setCell ⟨gb130, 8, none⟩ (.int .i64 ((rd_T38 l1 x10_1).f7.f0))).setCell ⟨gb130, 9, none⟩ (.int .i64 ((rd_T38 l1 x10_1).f7.f1))).setCell ⟨gb130, 10, none⟩ (.int .i64 ((rd_T38 l1 x10_1).f8))).setCell ⟨gb130, 11, none⟩ (.int .i64 ((rd_T38 l1 x10_1).f9.f0))).setCell ⟨gb130, 12, none⟩ (.int .i64 ((rd_T38 l1 x10_1).f9.f1))).setCell ⟨gb130, 13, none⟩ (.slice A129_13 ((rd_T38 l1 x10_1).f10).length c129_13)).heap[gb128]? = some (.cells #[.int .i64 a0_0, .int .i64 a0_1, .int .i64 a0_2, .int .i64 a0_3, .int .i64 a0_4, .int .i64 a0_5, .int .i64 a0_6, .int .i64 a0_7, .int .i64 a0_8, .int .i64 a0_9, .int .i64 a0_10, .int .i64 a0_11] 23 (0, 0))) := ⟨by (with_reducible repeat (first | refine blk_drewN ?_ _ | refine blk_drew ?_ | refine blk_alloc ?_ _)); refine blk_far ?_ NB128_130.out _; (with_reducible repeat (first | refine blk_drewN ?_ _ | refine blk_drew ?_ | refine blk_alloc ?_ _)); refine blk_far ?_ NB128_130.out _; (with_reducible repeat (first | refine blk_drewN ?_ _ | refine blk_drew ?_ | refine blk_alloc ?_ _)); refine blk_far ?_ NB128_130.out _; (with_reducible repeat (first | refine blk_drewN ?_ _ | refine blk_drew ?_ | refine blk_alloc ?_ _)); refine blk_far ?_ NB128_130.out _; (with_reducible repeat (first | refine blk_drewN ?_ _ | refine blk_drew ?_ | refine blk_alloc ?_ _)); refine blk_far ?_ NB128_130.out _; (with_reducible repeat (first | refine blk_drewN ?_ _ | refine blk_drew ?_ | refine blk_alloc ?_ _)); refine blk_far ?_ NB128_130.out _; (with_reducible repeat (first | refine blk_drewN ?_ _ | refine blk_drew ?_ | refine blk_alloc ?_ _)); refine blk_far ?_ NB128_130.out _; (with_reducible repeat (first | refine blk_drewN ?_ _ | refine blk_drew ?_ | refine blk_alloc ?_ _)); refine blk_far ?_ NB128_130.out _; (with_reducible repeat (first | refine blk_drewN ?_ _ | refine blk_drew ?_ | refine blk_alloc ?_ _)); refine blk_far ?_ NB128_130.out _; (with_reducible repeat (first | refine blk_drewN ?_ _ | refine blk_drew ?_ | refine blk_alloc ?_ _)); refine blk_far ?_ NB128_130.out _; (with_reducible repeat (first | refine blk_drewN ?_ _ | refine blk_drew ?_ | refine blk_alloc ?_ _)); refine blk_far ?_ NB128_130.out _; (with_reducible repeat (first | refine blk_drewN ?_ _ | refine blk_drew ?_ | refine blk_alloc ?_ _)); refine blk_far ?_ NB128_130.out _; (with_reducible repeat (first | refine blk_drewN ?_ _ | refine blk_drew ?_ | refine blk_alloc ?_ _)); refine blk_far ?_ NB128_130.out _; (with_reducible repeat (first | refine blk_drewN ?_ _ | refine blk_drew ?_ | refine blk_alloc ?_ _)); refine blk_far ?_ NB128_130.out _; (with_reducible repeat (first | refine blk_drewN ?_ _ | refine blk_drew ?_ | refine blk_alloc ?_ _)); exact BK128.out⟩
                      have n1_ : Aside0 (((((((((((((((w27.setCell ⟨gb130, 0, none⟩ (.int .i64 ((rd_T38 l1 x10_1).f0))).setCell ⟨gb130, 1, none⟩ (.int .i64 ((rd_T38 l1 x10_1).f1))).setCell ⟨gb130, 2, none⟩ (.int .i64 ((rd_T38 l1 x10_1).f2.f0))).setCell ⟨gb130, 3, none⟩ (.int .i64 ((rd_T38 l1 x10_1).f2.f1))).setCell ⟨gb130, 4, none⟩ (.int .i64 ((rd_T38 l1 x10_1).f3))).setCell ⟨gb130, 5, none⟩ (.int .i64 ((rd_T38 l1 x10_1).f4))).setCell ⟨gb130, 6, none⟩ (.bool ((rd_T38 l1 x10_1).f5))).setCell ⟨gb130, 7, none⟩ (.bool ((rd_T38 l1 x10_1).f6))).setCell ⟨gb130, 8, none⟩ (.int .i64 ((rd_T38 l1 x10_1).f7.f0))).setCell ⟨gb130, 9, none⟩ (.int .i64 ((rd_T38 l1 x10_1).f7.f1))).setCell ⟨gb130, 10, none⟩ (.int .i64 ((rd_T38 l1 x10_1).f8))).setCell ⟨gb130, 11, none⟩ (.int .i64 ((rd_T38 l1 x10_1).f9.f0))).setCell ⟨gb130, 12, none⟩ (.int .i64 ((rd_T38 l1 x10_1).f9.f1))).setCell ⟨gb130, 13, none⟩ (.slice A129_13 ((rd_T38 l1 x10_1).f10).length c129_13)).heap[gb130]? = some (.cells #[.int .i64 ((rd_T38 l1 x10_1).f0), .int .i64 ((rd_T38 l1 x10_1).f1), .int .i64 ((rd_T38 l1 x10_1).f2.f0), .int .i64 ((rd_T38 l1 x10_1).f2.f1), .int .i64 ((rd_T38 l1 x10_1).f3), .int .i64 ((rd_T38 l1 x10_1).f4), .bool ((rd_T38 l1 x10_1).f5), .bool ((rd_T38 l1 x10_1).f6), .int .i64 ((rd_T38 l1 x10_1).f7.f0), .int .i64 ((rd_T38 l1 x10_1).f7.f1), .int .i64 ((rd_T38 l1 x10_1).f8), .int .i64 ((rd_T38 l1 x10_1).f9.f0), .int .i64 ((rd_T38 l1 x10_1).f9.f1), .slice A129_13 ((rd_T38 l1 x10_1).f10).length c129_13] 38 (0, 0))) := ⟨by (with_reducible repeat (first | refine blk_drewN ?_ _ | refine blk_drew ?_ | refine blk_alloc ?_ _)); refine blk_put (cs := #[.int .i64 ((rd_T38 l1 x10_1).f0), .int .i64 ((rd_T38 l1 x10_1).f1), .int .i64 ((rd_T38 l1 x10_1).f2.f0), .int .i64 ((rd_T38 l1 x10_1).f2.f1), .int .i64 ((rd_T38 l1 x10_1).f3), .int .i64 ((rd_T38 l1 x10_1).f4), .bool ((rd_T38 l1 x10_1).f5), .bool ((rd_T38 l1 x10_1).f6), .int .i64 ((rd_T38 l1 x10_1).f7.f0), .int .i64 ((rd_T38 l1 x10_1).f7.f1), .int .i64 ((rd_T38 l1 x10_1).f8), .int .i64 ((rd_T38 l1 x10_1).f9.f0), .int .i64 ((rd_T38 l1 x10_1).f9.f1), .slice none 0 0]) ?_ 13 _ rfl; (with_reducible repeat (first | refine blk_drewN ?_ _ | refine blk_drew ?_ | refine blk_alloc ?_ _)); refine blk_put (cs := #[.int .i64 ((rd_T38 l1 x10_1).f0), .int .i64 ((rd_T38 l1 x10_1).f1), .int .i64 ((rd_T38 l1 x10_1).f2.f0), .int .i64 ((rd_T38 l1 x10_1).f2.f1), .int .i64 ((rd_T38 l1 x10_1).f3), .int .i64 ((rd_T38 l1 x10_1).f4), .bool ((rd_T38 l1 x10_1).f5), .bool ((rd_T38 l1 x10_1).f6), .int .i64 ((rd_T38 l1 x10_1).f7.f0), .int .i64 ((rd_T38 l1 x10_1).f7.f1), .int .i64 ((rd_T38 l1 x10_1).f8), .int .i64 ((rd_T38 l1 x10_1).f9.f0), .int .i64 0, .slice none 0 0]) ?_ 12 _ rfl; (with_reducible repeat (first | refine blk_drewN ?_ _ | refine blk_drew ?_ | refine blk_alloc ?_ _)); refine blk_put (cs := #[.int .i64 ((rd_T38 l1 x10_1).f0), .int .i64 ((rd_T38 l1 x10_1).f1), .int .i64 ((rd_T38 l1 x10_1).f2.f0), .int .i64 ((rd_T38 l1 x10_1).f2.f1), .int .i64 ((rd_T38 l1 x10_1).f3), .int .i64 ((rd_T38 l1 x10_1).f4), .bool ((rd_T38 l1 x10_1).f5), .bool ((rd_T38 l1 x10_1).f6), .int .i64 ((rd_T38 l1 x10_1).f7.f0), .int .i64 ((rd_T38 l1 x10_1).f7.f1), .int .i64 ((rd_T38 l1 x10_1).f8), .int .i64 0, .int .i64 0, .slice none 0 0]) ?_ 11 _ rfl; (with_reducible repeat (first | refine blk_drewN ?_ _ | refine blk_drew ?_ | refine blk_alloc ?_ _)); refine blk_put (cs := #[.int .i64 ((rd_T38 l1 x10_1).f0), .int .i64 ((rd_T38 l1 x10_1).f1), .int .i64 ((rd_T38 l1 x10_1).f2.f0), .int .i64 ((rd_T38 l1 x10_1).f2.f1), .int .i64 ((rd_T38 l1 x10_1).f3), .int .i64 ((rd_T38 l1 x10_1).f4), .bool ((rd_T38 l1 x10_1).f5), .bool ((rd_T38 l1 x10_1).f6), .int .i64 ((rd_T38 l1 x10_1).f7.f0), .int .i64 ((rd_T38 l1 x10_1).f7.f1), .int .i64 0, .int .i64 0, .int .i64 0, .slice none 0 0]) ?_ 10 _ rfl; (with_reducible repeat (first | refine blk_drewN ?_ _ | refine blk_drew ?_ | refine blk_alloc ?_ _)); refine blk_put (cs := #[.int .i64 ((rd_T38 l1 x10_1).f0), .int .i64 ((rd_T38 l1 x10_1).f1), .int .i64 ((rd_T38 l1 x10_1).f2.f0), .int .i64 ((rd_T38 l1 x10_1).f2.f1), .int .i64 ((rd_T38 l1 x10_1).f3), .int .i64 ((rd_T38 l1 x10_1).f4), .bool ((rd_T38 l1 x10_1).f5), .bool ((rd_T38 l1 x10_1).f6), .int .i64 ((rd_T38 l1 x10_1).f7.f0), .int .i64 0, .int .i64 0, .int .i64 0, .int .i64 0, .slice none 0 0]) ?_ 9 _ rfl; (with_reducible repeat (first | refine blk_drewN ?_ _ | refine blk_drew ?_ | refine blk_alloc ?_ _)); refine blk_put (cs := #[.int .i64 ((rd_T38 l1 x10_1).f0), .int .i64 ((rd_T38 l1 x10_1).f1), .int .i64 ((rd_T38 l1 x10_1).f2.f0), .int .i64 ((rd_T38 l1 x10_1).f2.f1), .int .i64 ((rd_T38 l1 x10_1).f3), .int .i64 ((rd_T38 l1 x10_1).f4), .bool ((rd_T38 l1 x10_1).f5), .bool ((rd_T38 l1 x10_1).f6), .int .i64 0, .int .i64 0, .int .i64 0, .int .i64 0, .int .i64 0, .slice none 0 0]) ?_ 8 _ rfl; (with_reducible repeat (first | refine blk_drewN ?_ _ | refine blk_drew ?_ | refine blk_alloc ?_ _)); refine blk_put (cs := #[.int .i64 ((rd_T38 l1 x10_1).f0), .int .i64 ((rd_T38 l1 x10_1).f1), .int .i64 ((rd_T38 l1 x10_1).f2.f0), .int .i64 ((rd_T38 l1 x10_1).f2.f1), .int .i64 ((rd_T38 l1 x10_1).f3), .int .i64 ((rd_T38 l1 x10_1).f4), .bool ((rd_T38 l1 x10_1).f5), .bool false, .int .i64 0, .int .i64 0, .int .i64 0, .int .i64 0, .int .i64 0, .slice none 0 0]) ?_ 7 _ rfl; (with_reducible repeat (first | refine blk_drewN ?_ _ | refine blk_drew ?_ | refine blk_alloc ?_ _)); refine blk_put (cs := #[.int .i64 ((rd_T38 l1 x10_1).f0), .int .i64 ((rd_T38 l1 x10_1).f1), .int .i64 ((rd_T38 l1 x10_1).f2.f0), .int .i64 ((rd_T38 l1 x10_1).f2.f1), .int .i64 ((rd_T38 l1 x10_1).f3), .int .i64 ((rd_T38 l1 x10_1).f4), .bool false, .bool false, .int .i64 0, .int .i64 0, .int .i64 0, .int .i64 0, .int .i64 0, .slice none 0 0]) ?_ 6 _ rfl; (with_reducible repeat (first | refine blk_drewN ?_ _ | refine blk_drew ?_ | refine blk_alloc ?_ _)); refine blk_put (cs := #[.int .i64 ((rd_T38 l1 x10_1).f0), .int .i64 ((rd_T38 l1 x10_1).f1), .int .i64 ((rd_T38 l1 x10_1).f2.f0), .int .i64 ((rd_T38 l1 x10_1).f2.f1), .int .i64 ((rd_T38 l1 x10_1).f3), .int .i64 0, .bool false, .bool false, .int .i64 0, .int .i64 0, .int .i64 0, .int .i64 0, .int .i64 0, .slice none 0 0]) ?_ 5 _ rfl; (with_reducible repeat (first | refine blk_drewN ?_ _ | refine blk_drew ?_ | refine blk_alloc ?_ _)); refine blk_put (cs := #[.int .i64 ((rd_T38 l1 x10_1).f0), .int .i64 ((rd_T38 l1 x10_1).f1), .int .i64 ((rd_T38 l1 x10_1).f2.f0), .int .i64 ((rd_T38 l1 x10_1).f2.f1), .int .i64 0, .int .i64 0, .bool false, .bool false, .int .i64 0, .int .i64 0, .int .i64 0, .int .i64 0, .int .i64 0, .slice none 0 0]) ?_ 4 _ rfl; (with_reducible repeat (first | refine blk_drewN ?_ _ | refine blk_drew ?_ | refine blk_alloc ?_ _)); refine blk_put (cs := #[.int .i64 ((rd_T38 l1 x10_1).f0), .int .i64 ((rd_T38 l1 x10_1).f1), .int .i64 ((rd_T38 l1 x10_1).f2.f0), .int .i64 0, .int .i64 0, .int .i64 0, .bool false, .bool false, .int .i64 0, .int .i64 0, .int .i64 0, .int .i64 0, .int .i64 0, .slice none 0 0]) ?_ 3 _ rfl; (with_reducible repeat (first | refine blk_drewN ?_ _ | refine blk_drew ?_ | refine blk_alloc ?_ _)); refine blk_put (cs := #[.int .i64 ((rd_T38 l1 x10_1).f0), .int .i64 ((rd_T38 l1 x10_1).f1), .int .i64 0, .int .i64 0, .int .i64 0, .int .i64 0, .bool false, .bool false, .int .i64 0, .int .i64 0, .int .i64 0, .int .i64 0, .int .i64 0, .slice none 0 0]) ?_ 2 _ rfl; (with_reducible repeat (first | refine blk_drewN ?_ _ | refine blk_drew ?_ | refine blk_alloc ?_ _)); refine blk_put (cs := #[.int .i64 ((rd_T38 l1 x10_1).f0), .int .i64 0, .int .i64 0, .int .i64 0, .int .i64 0, .int .i64 0, .bool false, .bool false, .int .i64 0, .int .i64 0, .int .i64 0, .int .i64 0, .int .i64 0, .slice none 0 0]) ?_ 1 _ rfl; (with_reducible repeat (first | refine blk_drewN ?_ _ | refine blk_drew ?_ | refine blk_alloc ?_ _)); refine blk_put (cs := #[.int .i64 0, .int .i64 0, .int .i64 0, .int .i64 0, .int .i64 0, .int .i64 0, .bool false, .bool false, .int .i64 0, .int .i64 0, .int .i64 0, .int .i64 0, .int .i64 0, .slice none 0 0]) ?_ 0 _ rfl; (with_reducible repeat (first | refine blk_drewN ?_ _ | refine blk_drew ?_ | refine blk_alloc ?_ _)); exact BK130.out⟩
                      have n2_ : Aside0 (Below w.heap.size w ((((((((((((((w27.setCell ⟨gb130, 0, none⟩ (.int .i64 ((rd_T38 l1 x10_1).f0))).setCell ⟨gb130, 1, none⟩ (.int .i64 ((rd_T38 l1 x10_1).f1))).setCell ⟨gb130, 2, none⟩ (.int .i64 ((rd_T38 l1 x10_1).f2.f0))).setCell ⟨gb130, 3, none⟩ (.int .i64 ((rd_T38 l1 x10_1).f2.f1))).setCell ⟨gb130, 4, none⟩ (.int .i64 ((rd_T38 l1 x10_1).f3))).setCell ⟨gb130, 5, none⟩ (.int .i64 ((rd_T38 l1 x10_1).f4))).setCell ⟨gb130, 6, none⟩ (.bool ((rd_T38 l1 x10_1).f5))).setCell ⟨gb130, 7, none⟩ (.bool ((rd_T38 l1 x10_1).f6))).setCell ⟨gb130, 8, none⟩ (.int .i64 ((rd_T38 l1 x10_1).f7.f0))).setCell ⟨gb130, 9, none⟩ (.int .i64 ((rd_T38 l1 x10_1).f7.f1))).setCell ⟨gb130, 10, none⟩ (.int .i64 ((rd_T38 l1 x10_1).f8))).setCell ⟨gb130, 11, none⟩ (.int .i64 ((rd_T38 l1 x10_1).f9.f0))).setCell ⟨gb130, 12, none⟩ (.int .i64 ((rd_T38 l1 x10_1).f9.f1))).setCell ⟨gb130, 13, none⟩ (.slice A129_13 ((rd_T38 l1 x10_1).f10).length c129_13))) := ⟨by repeat (first | (with_reducible first | exact HB.out | apply below_alloc | apply pw_below_drewN | apply below_drew1 | refine below_set ?_ GE128.out | refine below_set ?_ GE130.out) | exact HB.out)⟩
                      (try clear BK128)
                      (try clear BK130)
                      (try clear HB)
                      generalize ((((((((((((((w27.setCell ⟨gb130, 0, none⟩ (.int .i64 ((rd_T38 l1 x10_1).f0))).setCell ⟨gb130, 1, none⟩ (.int .i64 ((rd_T38 l1 x10_1).f1))).setCell ⟨gb130, 2, none⟩ (.int .i64 ((rd_T38 l1 x10_1).f2.f0))).setCell ⟨gb130, 3, none⟩ (.int .i64 ((rd_T38 l1 x10_1).f2.f1))).setCell ⟨gb130, 4, none⟩ (.int .i64 ((rd_T38 l1 x10_1).f3))).setCell ⟨gb130, 5, none⟩ (.int .i64 ((rd_T38 l1 x10_1).f4))).setCell ⟨gb130, 6, none⟩ (.bool ((rd_T38 l1 x10_1).f5))).setCell ⟨gb130, 7, none⟩ (.bool ((rd_T38 l1 x10_1).f6))).setCell ⟨gb130, 8, none⟩ (.int .i64 ((rd_T38 l1 x10_1).f7.f0))).setCell ⟨gb130, 9, none⟩ (.int .i64 ((rd_T38 l1 x10_1).f7.f1))).setCell ⟨gb130, 10, none⟩ (.int .i64 ((rd_T38 l1 x10_1).f8))).setCell ⟨gb130, 11, none⟩ (.int .i64 ((rd_T38 l1 x10_1).f9.f0))).setCell ⟨gb130, 12, none⟩ (.int .i64 ((rd_T38 l1 x10_1).f9.f1))).setCell ⟨gb130, 13, none⟩ (.slice A129_13 ((rd_T38 l1 x10_1).f10).length c129_13)) = w30 at n0_ n1_ n2_ ⊢
                      have BK128 := n0_
                      have BK130 := n1_
                      have HB := n2_
                      clear n0_ n1_ n2_
                      have n0_ := Aside0.mk (blk_drew BK128.out)
                      have n1_ := Aside0.mk (blk_drew BK130.out)
                      have n2_ := Aside0.mk (below_drew1 HB.out)
                      clear BK128
                      clear BK130
                      clear HB
                      have BK128 := n0_
                      have BK130 := n1_
                      have HB := n2_
                      clear n0_ n1_ n2_
                      have p132 : 0 ≤ (x5_1 : Int) := of_decide_eq_true (by first | (with_reducible assumption) | assumption)
                      have q132 : x5_1 < (l1.length : Int) := of_decide_eq_true (by first | (with_reducible assumption) | assumption)
                      obtain ⟨ad132, A132_13, c132_13, e132, hx132_0, hx132_1, hx132_2, hx132_3, hx132_4, hx132_5, hx132_6, hx132_7, hx132_8, hx132_9, hx132_10, hx132_11, hx132_12, hx132_13, hl132_13, hi132_13⟩ := at_T38 HR1.out x5_1 p132 q132
                      have hw132_13 := hx132_13
                      have hw132_12 := hx132_12
                      have hw132_11 := hx132_11
                      have hw132_10 := hx132_10
                      have hw132_9 := hx132_9
                      have hw132_8 := hx132_8
                      have hw132_7 := hx132_7
                      have hw132_6 := hx132_6
                      have hw132_5 := hx132_5
                      have hw132_4 := hx132_4
                      have hw132_3 := hx132_3
                      have hw132_2 := hx132_2
                      have hw132_1 := hx132_1
                      have hw132_0 := hx132_0
                      obtain rfl : ad129 = ad132 := (by injection e132)
                      replace hx132_0 := (HB.out.cell (World.block_lt_of_cell? w _ hx132_0)).trans hx132_0
                      replace hx132_1 := (HB.out.cell (World.block_lt_of_cell? w _ hx132_1)).trans hx132_1
                      replace hx132_2 := (HB.out.cell (World.block_lt_of_cell? w _ hx132_2)).trans hx132_2
                      replace hx132_3 := (HB.out.cell (World.block_lt_of_cell? w _ hx132_3)).trans hx132_3
                      replace hx132_4 := (HB.out.cell (World.block_lt_of_cell? w _ hx132_4)).trans hx132_4
                      replace hx132_5 := (HB.out.cell (World.block_lt_of_cell? w _ hx132_5)).trans hx132_5
                      replace hx132_6 := (HB.out.cell (World.block_lt_of_cell? w _ hx132_6)).trans hx132_6
                      replace hx132_7 := (HB.out.cell (World.block_lt_of_cell? w _ hx132_7)).trans hx132_7
                      replace hx132_8 := (HB.out.cell (World.block_lt_of_cell? w _ hx132_8)).trans hx132_8
                      replace hx132_9 := (HB.out.cell (World.block_lt_of_cell? w _ hx132_9)).trans hx132_9
                      replace hx132_10 := (HB.out.cell (World.block_lt_of_cell? w _ hx132_10)).trans hx132_10
                      replace hx132_11 := (HB.out.cell (World.block_lt_of_cell? w _ hx132_11)).trans hx132_11
                      replace hx132_12 := (HB.out.cell (World.block_lt_of_cell? w _ hx132_12)).trans hx132_12
                      replace hx132_13 := (HB.out.cell (World.block_lt_of_cell? w _ hx132_13)).trans hx132_13
                      have HR132_13 := Aside0.mk hi132_13
                      have HC132_13 := Aside0.mk hl132_13
                      clear hi132_13 hl132_13
                      replace p132 := eq_true p132
                      replace q132 := eq_true q132
                      refine start_ (n := 15) (S := fun w' => w'.cell? ⟨gb128, 0, none⟩ = some (.int .i64 a0_0) ∧ w'.cell? ⟨gb128, 1, none⟩ = some (.int .i64 a0_1) ∧ w'.cell? ⟨gb128, 2, none⟩ = some (.int .i64 a0_2) ∧ w'.cell? ⟨gb128, 3, none⟩ = some (.int .i64 a0_3) ∧ w'.cell? ⟨gb128, 4, none⟩ = some (.int .i64 a0_4) ∧ w'.cell? ⟨gb128, 5, none⟩ = some (.int .i64 a0_5) ∧ w'.cell? ⟨gb128, 6, none⟩ = some (.int .i64 a0_6) ∧ w'.cell? ⟨gb128, 7, none⟩ = some (.int .i64 a0_7) ∧ w'.cell? ⟨gb128, 8, none⟩ = some (.int .i64 a0_8) ∧ w'.cell? ⟨gb128, 9, none⟩ = some (.int .i64 a0_9) ∧ w'.cell? ⟨gb128, 10, none⟩ = some (.int .i64 a0_10) ∧ w'.cell? ⟨gb128, 11, none⟩ = some (.int .i64 a0_11) ∧ w'.cell? ⟨gb130, 0, none⟩ = some (.int .i64 ((rd_T38 l1 x10_1).f0)) ∧ w'.cell? ⟨gb130, 1, none⟩ = some (.int .i64 ((rd_T38 l1 x10_1).f1)) ∧ w'.cell? ⟨gb130, 2, none⟩ = some (.int .i64 ((rd_T38 l1 x10_1).f2.f0)) ∧ w'.cell? ⟨gb130, 3, none⟩ = some (.int .i64 ((rd_T38 l1 x10_1).f2.f1)) ∧ w'.cell? ⟨gb130, 4, none⟩ = some (.int .i64 ((rd_T38 l1 x10_1).f3)) ∧ w'.cell? ⟨gb130, 5, none⟩ = some (.int .i64 ((rd_T38 l1 x10_1).f4)) ∧ w'.cell? ⟨gb130, 6, none⟩ = some (.bool ((rd_T38 l1 x10_1).f5)) ∧ w'.cell? ⟨gb130, 7, none⟩ = some (.bool ((rd_T38 l1 x10_1).f6)) ∧ w'.cell? ⟨gb130, 8, none⟩ = some (.int .i64 ((rd_T38 l1 x10_1).f7.f0)) ∧ w'.cell? ⟨gb130, 9, none⟩ = some (.int .i64 ((rd_T38 l1 x10_1).f7.f1)) ∧ w'.cell? ⟨gb130, 10, none⟩ = some (.int .i64 ((rd_T38 l1 x10_1).f8)) ∧ w'.cell? ⟨gb130, 11, none⟩ = some (.int .i64 ((rd_T38 l1 x10_1).f9.f0)) ∧ w'.cell? ⟨gb130, 12, none⟩ = some (.int .i64 ((rd_T38 l1 x10_1).f9.f1)) ∧ w'.cell? ⟨gb130, 13, none⟩ = some (.slice A129_13 ((rd_T38 l1 x10_1).f10).length c129_13) ∧ w'.cell? (ad129.add ((x5_1).toNat * 14)) = some (.int .i64 ((rd_T38 l1 x5_1).f0)) ∧ w'.cell? ⟨(ad129.add ((x5_1).toNat * 14)).block, (ad129.add ((x5_1).toNat * 14)).off + 1, none⟩ = some (.int .i64 ((rd_T38 l1 x5_1).f1)) ∧ w'.cell? ⟨(ad129.add ((x5_1).toNat * 14)).block, (ad129.add ((x5_1).toNat * 14)).off + 2, none⟩ = some (.int .i64 ((rd_T38 l1 x5_1).f2.f0)) ∧ w'.cell? ⟨(ad129.add ((x5_1).toNat * 14)).block, (ad129.add ((x5_1).toNat * 14)).off + 3, none⟩ = some (.int .i64 ((rd_T38 l1 x5_1).f2.f1)) ∧ w'.cell? ⟨(ad129.add ((x5_1).toNat * 14)).block, (ad129.add ((x5_1).toNat * 14)).off + 4, none⟩ = some (.int .i64 ((rd_T38 l1 x5_1).f3)) ∧ w'.cell? ⟨(ad129.add ((x5_1).toNat * 14)).block, (ad129.add ((x5_1).toNat * 14)).off + 5, none⟩ = some (.int .i64 ((rd_T38 l1 x5_1).f4)) ∧ w'.cell? ⟨(ad129.add ((x5_1).toNat * 14)).block, (ad129.add ((x5_1).toNat * 14)).off + 6, none⟩ = some (.bool ((rd_T38 l1 x5_1).f5)) ∧ w'.cell? ⟨(ad129.add ((x5_1).toNat * 14)).block, (ad129.add ((x5_1).toNat * 14)).off + 7, none⟩ = some (.bool ((rd_T38 l1 x5_1).f6)) ∧ w'.cell? ⟨(ad129.add ((x5_1).toNat * 14)).block, (ad129.add ((x5_1).toNat * 14)).off + 8, none⟩ = some (.int .i64 ((rd_T38 l1 x5_1).f7.f0)) ∧ w'.cell? ⟨(ad129.add ((x5_1).toNat * 14)).block, (ad129.add ((x5_1).toNat * 14)).off + 9, none⟩ = some (.int .i64 ((rd_T38 l1 x5_1).f7.f1)) ∧ w'.cell? ⟨(ad129.add ((x5_1).toNat * 14)).block, (ad129.add ((x5_1).toNat * 14)).off + 10, none⟩ = some (.int .i64 ((rd_T38 l1 x5_1).f8)) ∧ w'.cell? ⟨(ad129.add ((x5_1).toNat * 14)).block, (ad129.add ((x5_1).toNat * 14)).off + 11, none⟩ = some (.int .i64 ((rd_T38 l1 x5_1).f9.f0)) ∧ w'.cell? ⟨(ad129.add ((x5_1).toNat * 14)).block, (ad129.add ((x5_1).toNat * 14)).off + 12, none⟩ = some (.int .i64 ((rd_T38 l1 x5_1).f9.f1)) ∧ w'.cell? ⟨(ad129.add ((x5_1).toNat * 14)).block, (ad129.add ((x5_1).toNat * 14)).off + 13, none⟩ = some (.slice A132_13 ((rd_T38 l1 x5_1).f10).length c132_13)) (ds := []) #[false, false, false, false, false, false, false, false, false, false, false, false, false, false, false] (by kernel_rfl) rfl rfl ⟨(blk_cell BK128.out 0).trans rfl, (blk_cell BK128.out 1).trans rfl, (blk_cell BK128.out 2).trans rfl, (blk_cell BK128.out 3).trans rfl, (blk_cell BK128.out 4).trans rfl, (blk_cell BK128.out 5).trans rfl, (blk_cell BK128.out 6).trans rfl, (blk_cell BK128.out 7).trans rfl, (blk_cell BK128.out 8).trans rfl, (blk_cell BK128.out 9).trans rfl, (blk_cell BK128.out 10).trans rfl, (blk_cell BK128.out 11).trans rfl, (blk_cell BK130.out 0).trans rfl, (blk_cell BK130.out 1).trans rfl, (blk_cell BK130.out 2).trans rfl, (blk_cell BK130.out 3).trans rfl, (blk_cell BK130.out 4).trans rfl, (blk_cell BK130.out 5).trans rfl, (blk_cell BK130.out 6).trans rfl, (blk_cell BK130.out 7).trans rfl, (blk_cell BK130.out 8).trans rfl, (blk_cell BK130.out 9).trans rfl, (blk_cell BK130.out 10).trans rfl, (blk_cell BK130.out 11).trans rfl, (blk_cell BK130.out 12).trans rfl, (blk_cell BK130.out 13).trans rfl, ((HB.out.cell (World.block_lt_of_cell? w _ hw132_0)).trans hw132_0), ((HB.out.cell (World.block_lt_of_cell? w _ hw132_1)).trans hw132_1), ((HB.out.cell (World.block_lt_of_cell? w _ hw132_2)).trans hw132_2), ((HB.out.cell (World.block_lt_of_cell? w _ hw132_3)).trans hw132_3), ((HB.out.cell (World.block_lt_of_cell? w _ hw132_4)).trans hw132_4), ((HB.out.cell (World.block_lt_of_cell? w _ hw132_5)).trans hw132_5), ((HB.out.cell (World.block_lt_of_cell? w _ hw132_6)).trans hw132_6), ((HB.out.cell (World.block_lt_of_cell? w _ hw132_7)).trans hw132_7), ((HB.out.cell (World.block_lt_of_cell? w _ hw132_8)).trans hw132_8), ((HB.out.cell (World.block_lt_of_cell? w _ hw132_9)).trans hw132_9), ((HB.out.cell (World.block_lt_of_cell? w _ hw132_10)).trans hw132_10), ((HB.out.cell (World.block_lt_of_cell? w _ hw132_11)).trans hw132_11), ((HB.out.cell (World.block_lt_of_cell? w _ hw132_12)).trans hw132_12), ((HB.out.cell (World.block_lt_of_cell? w _ hw132_13)).trans hw132_13)⟩ (fun hHeld => ?_); refine with_tabW clepsydraref15_Choose.tab5 clepsydraref15_Choose.bits5 (fun HT_ HW_ => ?_)
                      generalize w30.drew = w31 at BK128 BK130 HB HR132_13 hx132_0 hx132_1 hx132_10 hx132_11 hx132_12 hx132_13 hx132_2 hx132_3 hx132_4 hx132_5 hx132_6 hx132_7 hx132_8 hx132_9 hHeld ⊢
                      refine take_ (i := 0) (N := some 15) (v := ?_) (a' := ?_) #[true, false, false, false, false, false, false, false, false, false, false, false, false, false, false] rfl rfl (take_ofW HT_.out HW_.out (by kernel_rfl)) (fun _ _ _ h => h) (Or.inl ⟨by rfl, ?_⟩) hHeld ?_ ?_
                      rotate_left
                      · rintro w' ⟨s0, s1, s2, s3, s4, s5, s6, s7, s8, s9, s10, s11, s12, s13, s14, s15, s16, s17, s18, s19, s20, s21, s22, s23, s24, s25, s26, s27, s28, s29, s30, s31, s32, s33, s34, s35, s36, s37, s38, s39⟩
                        go_simp
                        with_reducible rfl
                      rotate_left
                      · simp only [Act.put, List.setIfInBounds_toArray, List.set_cons_zero, List.set_cons_succ, i64_w, i32_w]
                        rfl
                      refine take_ (i := 1) (N := some 16) (v := ?_) (a' := ?_) #[true, true, false, false, false, false, false, false, false, false, false, false, false, false, false] rfl rfl (take_ofW HT_.out HW_.out (by kernel_rfl)) (fun _ _ _ h => h) (Or.inl ⟨by rfl, ?_⟩) hHeld ?_ ?_
                      rotate_left
                      · rintro w' ⟨s0, s1, s2, s3, s4, s5, s6, s7, s8, s9, s10, s11, s12, s13, s14, s15, s16, s17, s18, s19, s20, s21, s22, s23, s24, s25, s26, s27, s28, s29, s30, s31, s32, s33, s34, s35, s36, s37, s38, s39⟩
                        go_simp
                        with_reducible rfl
                      rotate_left
                      · simp only [Act.put, List.setIfInBounds_toArray, List.set_cons_zero, List.set_cons_succ, i64_w, i32_w]
                        rfl
                      refine one_ (i := 2) (N := some 17) #[true, true, true, false, false, false, false, false, false, false, false, false, false, false, false] rfl rfl (one_of HT_.out (by kernel_rfl)) (by decide) (fun K hK => ?_)
                      refine goes_ Try.func18 (by kernel_rfl) rfl #[.agg #[.int .i64 a0_0, .int .i64 a0_1, .int .i64 a0_2, .int .i64 a0_3, .int .i64 a0_4, .int .i64 a0_5, .int .i64 a0_6, .int .i64 a0_7, .int .i64 a0_8, .int .i64 a0_9, .int .i64 a0_10, .int .i64 a0_11], .agg #[.int .i64 ((rd_T38 l1 x10_1).f0), .int .i64 ((rd_T38 l1 x10_1).f1), .int .i64 ((rd_T38 l1 x10_1).f2.f0), .int .i64 ((rd_T38 l1 x10_1).f2.f1), .int .i64 ((rd_T38 l1 x10_1).f3), .int .i64 ((rd_T38 l1 x10_1).f4), .bool ((rd_T38 l1 x10_1).f5), .bool ((rd_T38 l1 x10_1).f6), .int .i64 ((rd_T38 l1 x10_1).f7.f0), .int .i64 ((rd_T38 l1 x10_1).f7.f1), .int .i64 ((rd_T38 l1 x10_1).f8), .int .i64 ((rd_T38 l1 x10_1).f9.f0), .int .i64 ((rd_T38 l1 x10_1).f9.f1), .slice A129_13 ((rd_T38 l1 x10_1).f10).length c129_13]] (by rfl) rfl rfl (by (try simp only [List.map_toArray, List.map_cons, List.map_nil]); first | done | rfl | (simp only [List.length_drop, List.length_take]; rfl)) ?_
                      with_reducible refine (clepsydraref15_Usable.calls a0_0 a0_1 a0_2 a0_3 a0_4 a0_5 a0_6 a0_7 a0_8 a0_9 a0_10 a0_11 ((rd_T38 l1 x10_1).f0) ((rd_T38 l1 x10_1).f1) ((rd_T38 l1 x10_1).f2.f0) ((rd_T38 l1 x10_1).f2.f1) ((rd_T38 l1 x10_1).f3) ((rd_T38 l1 x10_1).f4) ((rd_T38 l1 x10_1).f5) ((rd_T38 l1 x10_1).f6) ((rd_T38 l1 x10_1).f7.f0) ((rd_T38 l1 x10_1).f7.f1) ((rd_T38 l1 x10_1).f8) ((rd_T38 l1 x10_1).f9.f0) ((rd_T38 l1 x10_1).f9.f1) _ _ ((rd_T38 l1 x10_1).f10) true _ ?side1 ?side2 A7.out).mono ?_
                      (case side1 => repeat (first | exact (Kd.C_below HR129_13.out HB.out) | (with_reducible refine Kd.C_alloc ?_ _) | (with_reducible refine Kd.C_drewN ?_ _) | (with_reducible refine Kd.C_drew ?_)))
                      (case side2 => exact HC129_13.out)
                      rintro e w32 ⟨rfl, hb⟩
                      refine ⟨_, rfl, ?_⟩
                      have n0_ := Aside0.mk (blk_below (g := gb128) (o := .cells #[.int .i64 a0_0, .int .i64 a0_1, .int .i64 a0_2, .int .i64 a0_3, .int .i64 a0_4, .int .i64 a0_5, .int .i64 a0_6, .int .i64 a0_7, .int .i64 a0_8, .int .i64 a0_9, .int .i64 a0_10, .int .i64 a0_11] 23 (0, 0)) (by (with_reducible repeat (first | refine blk_drewN ?_ _ | refine blk_drew ?_ | refine blk_alloc ?_ _)); exact BK128.out) hb)
                      have n1_ := Aside0.mk (blk_below (g := gb130) (o := .cells #[.int .i64 ((rd_T38 l1 x10_1).f0), .int .i64 ((rd_T38 l1 x10_1).f1), .int .i64 ((rd_T38 l1 x10_1).f2.f0), .int .i64 ((rd_T38 l1 x10_1).f2.f1), .int .i64 ((rd_T38 l1 x10_1).f3), .int .i64 ((rd_T38 l1 x10_1).f4), .bool ((rd_T38 l1 x10_1).f5), .bool ((rd_T38 l1 x10_1).f6), .int .i64 ((rd_T38 l1 x10_1).f7.f0), .int .i64 ((rd_T38 l1 x10_1).f7.f1), .int .i64 ((rd_T38 l1 x10_1).f8), .int .i64 ((rd_T38 l1 x10_1).f9.f0), .int .i64 ((rd_T38 l1 x10_1).f9.f1), .slice A129_13 ((rd_T38 l1 x10_1).f10).length c129_13] 38 (0, 0)) (by (with_reducible repeat (first | refine blk_drewN ?_ _ | refine blk_drew ?_ | refine blk_alloc ?_ _)); exact BK130.out) hb)
                      have n2_ := Aside0.mk (below_step (by repeat (first | (with_reducible first | exact HB.out | apply below_alloc | apply pw_below_drewN | apply below_drew1 | refine below_set ?_ GE128.out | refine below_set ?_ GE130.out) | exact HB.out)) hb)
                      clear BK128
                      clear BK130
                      clear HB
                      have BK128 := n0_
                      have BK130 := n1_
                      have HB := n2_
                      clear n0_ n1_ n2_
                      (try clear hb)
                      (try clear hb2)
                      (try clear hk)
                      (try clear hi)
                      refine hK.out _ _ ⟨(blk_cell BK128.out 0).trans rfl, (blk_cell BK128.out 1).trans rfl, (blk_cell BK128.out 2).trans rfl, (blk_cell BK128.out 3).trans rfl, (blk_cell BK128.out 4).trans rfl, (blk_cell BK128.out 5).trans rfl, (blk_cell BK128.out 6).trans rfl, (blk_cell BK128.out 7).trans rfl, (blk_cell BK128.out 8).trans rfl, (blk_cell BK128.out 9).trans rfl, (blk_cell BK128.out 10).trans rfl, (blk_cell BK128.out 11).trans rfl, (blk_cell BK130.out 0).trans rfl, (blk_cell BK130.out 1).trans rfl, (blk_cell BK130.out 2).trans rfl, (blk_cell BK130.out 3).trans rfl, (blk_cell BK130.out 4).trans rfl, (blk_cell BK130.out 5).trans rfl, (blk_cell BK130.out 6).trans rfl, (blk_cell BK130.out 7).trans rfl, (blk_cell BK130.out 8).trans rfl, (blk_cell BK130.out 9).trans rfl, (blk_cell BK130.out 10).trans rfl, (blk_cell BK130.out 11).trans rfl, (blk_cell BK130.out 12).trans rfl, (blk_cell BK130.out 13).trans rfl, ((HB.out.cell (World.block_lt_of_cell? w _ hw132_0)).trans hw132_0), ((HB.out.cell (World.block_lt_of_cell? w _ hw132_1)).trans hw132_1), ((HB.out.cell (World.block_lt_of_cell? w _ hw132_2)).trans hw132_2), ((HB.out.cell (World.block_lt_of_cell? w _ hw132_3)).trans hw132_3), ((HB.out.cell (World.block_lt_of_cell? w _ hw132_4)).trans hw132_4), ((HB.out.cell (World.block_lt_of_cell? w _ hw132_5)).trans hw132_5), ((HB.out.cell (World.block_lt_of_cell? w _ hw132_6)).trans hw132_6), ((HB.out.cell (World.block_lt_of_cell? w _ hw132_7)).trans hw132_7), ((HB.out.cell (World.block_lt_of_cell? w _ hw132_8)).trans hw132_8), ((HB.out.cell (World.block_lt_of_cell? w _ hw132_9)).trans hw132_9), ((HB.out.cell (World.block_lt_of_cell? w _ hw132_10)).trans hw132_10), ((HB.out.cell (World.block_lt_of_cell? w _ hw132_11)).trans hw132_11), ((HB.out.cell (World.block_lt_of_cell? w _ hw132_12)).trans hw132_12), ((HB.out.cell (World.block_lt_of_cell? w _ hw132_13)).trans hw132_13)⟩ (fun hHeld => ?_)
                      clear hK K
                      refine norm_ (a' := ?_) ?_ ?_
                      rotate_left
                      · show Act.put _ (some 17) _ = _
                        simp only [Act.put, List.setIfInBounds_toArray, List.set_cons_zero, List.set_cons_succ, i64_w, i32_w]
                        rfl
                      refine pure_ (i := 3) (N := some 18) (v := ?_) (a' := ?_) #[true, true, true, true, false, false, false, false, false, false, false, false, false, false, false] rfl rfl (any_of HT_.out (by kernel_rfl)) (fun _ _ _ h => h) (Or.inl ⟨by rfl, ?_⟩) ?_ ?_
                      rotate_left
                      · intro w'
                        go_simp
                        with_reducible rfl
                      rotate_left
                      · simp only [Act.put, List.setIfInBounds_toArray, List.set_cons_zero, List.set_cons_succ, i64_w, i32_w]
                        rfl
                      refine pure_ (i := 4) (N := some 19) (v := ?_) (a' := ?_) #[true, true, true, true, true, false, false, false, false, false, false, false, false, false, false] rfl rfl (any_of HT_.out (by kernel_rfl)) (fun _ _ _ h => h) (Or.inl ⟨by rfl, ?_⟩) ?_ ?_
                      rotate_left
                      · intro w'
                        go_simp
                        with_reducible rfl
                      rotate_left
                      · simp only [Act.put, List.setIfInBounds_toArray, List.set_cons_zero, List.set_cons_succ, i64_w, i32_w]
                        rfl
                      refine pure_ (i := 5) (N := some 20) (v := ?_) (a' := ?_) #[true, true, true, true, true, true, false, false, false, false, false, false, false, false, false] rfl rfl (any_of HT_.out (by kernel_rfl)) (fun _ _ _ h => h) (Or.inl ⟨by rfl, ?_⟩) ?_ ?_
                      rotate_left
                      · intro w'
                        go_simp
                        with_reducible rfl
                      rotate_left
                      · simp only [Act.put, List.setIfInBounds_toArray, List.set_cons_zero, List.set_cons_succ, i64_w, i32_w]
                        rfl
                      refine pure_ (i := 6) (N := some 21) (v := ?_) (a' := ?_) #[true, true, true, true, true, true, true, false, false, false, false, false, false, false, false] rfl rfl (any_of HT_.out (by kernel_rfl)) (fun _ _ _ h => h) (Or.inl ⟨by rfl, ?_⟩) ?_ ?_
                      rotate_left
                      · intro w'
                        go_simp
                        with_reducible rfl
                      rotate_left
                      · simp only [Act.put, List.setIfInBounds_toArray, List.set_cons_zero, List.set_cons_succ, i64_w, i32_w]
                        rfl
                      refine pure_ (i := 8) (N := some 23) (v := ?_) (a' := ?_) #[true, true, true, true, true, true, true, false, true, false, false, false, false, false, false] rfl rfl (any_of HT_.out (by kernel_rfl)) (fun _ _ _ h => h) (Or.inl ⟨by rfl, ?_⟩) ?_ ?_
                      rotate_left
                      · intro w'
                        go_simp
                        with_reducible rfl
                      rotate_left
                      · simp only [Act.put, List.setIfInBounds_toArray, List.set_cons_zero, List.set_cons_succ, i64_w, i32_w]
                        rfl
                      refine pure_ (i := 9) (N := some 24) (v := ?_) (a' := ?_) #[true, true, true, true, true, true, true, false, true, true, false, false, false, false, false] rfl rfl (any_of HT_.out (by kernel_rfl)) (fun _ _ _ h => h) (Or.inl ⟨by rfl, ?_⟩) ?_ ?_
                      rotate_left
                      · intro w'
                        go_simp
                        with_reducible rfl
                      rotate_left
                      · simp only [Act.put, List.setIfInBounds_toArray, List.set_cons_zero, List.set_cons_succ, i64_w, i32_w]
                        rfl
                      refine pure_ (i := 10) (N := some 25) (v := ?_) (a' := ?_) #[true, true, true, true, true, true, true, false, true, true, true, false, false, false, false] rfl rfl (any_of HT_.out (by kernel_rfl)) (fun _ _ _ h => h) (Or.inl ⟨by rfl, ?_⟩) ?_ ?_
                      rotate_left
                      · intro w'
                        go_simp
                        with_reducible rfl
                      rotate_left
                      · simp only [Act.put, List.setIfInBounds_toArray, List.set_cons_zero, List.set_cons_succ, i64_w, i32_w]
                        rfl
                      refine take_ (i := 7) (N := some 22) (v := ?_) (a' := ?_) #[true, true, true, true, true, true, true, true, true, true, true, false, false, false, false] rfl rfl (take_ofW HT_.out HW_.out (by kernel_rfl)) (fun _ _ _ h => h) (Or.inl ⟨by rfl, ?_⟩) hHeld ?_ ?_
                      rotate_left
                      · rintro w' ⟨s0, s1, s2, s3, s4, s5, s6, s7, s8, s9, s10, s11, s12, s13, s14, s15, s16, s17, s18, s19, s20, s21, s22, s23, s24, s25, s26, s27, s28, s29, s30, s31, s32, s33, s34, s35, s36, s37, s38, s39⟩
                        go_simp
                        with_reducible rfl
                      rotate_left
                      · simp only [Act.put, List.setIfInBounds_toArray, List.set_cons_zero, List.set_cons_succ, i64_w, i32_w]
                        rfl
                      refine take_ (i := 11) (N := some 26) (v := ?_) (a' := ?_) #[true, true, true, true, true, true, true, true, true, true, true, true, false, false, false] rfl rfl (take_ofW HT_.out HW_.out (by kernel_rfl)) (fun _ _ _ h => h) (Or.inl ⟨by rfl, ?_⟩) hHeld ?_ ?_
                      rotate_left
                      · rintro w' ⟨s0, s1, s2, s3, s4, s5, s6, s7, s8, s9, s10, s11, s12, s13, s14, s15, s16, s17, s18, s19, s20, s21, s22, s23, s24, s25, s26, s27, s28, s29, s30, s31, s32, s33, s34, s35, s36, s37, s38, s39⟩
                        go_simp
                        with_reducible rfl
                      rotate_left
                      · simp only [Act.put, List.setIfInBounds_toArray, List.set_cons_zero, List.set_cons_succ, i64_w, i32_w]
                        rfl
                      refine one_ (i := 12) (N := some 27) #[true, true, true, true, true, true, true, true, true, true, true, true, true, false, false] rfl rfl (one_of HT_.out (by kernel_rfl)) (by decide) (fun K hK => ?_)
                      refine goes_ Try.func37 (by kernel_rfl) rfl #[.agg #[.int .i64 ((rd_T38 l1 x10_1).f0), .int .i64 ((rd_T38 l1 x10_1).f1), .int .i64 ((rd_T38 l1 x10_1).f2.f0), .int .i64 ((rd_T38 l1 x10_1).f2.f1), .int .i64 ((rd_T38 l1 x10_1).f3), .int .i64 ((rd_T38 l1 x10_1).f4), .bool ((rd_T38 l1 x10_1).f5), .bool ((rd_T38 l1 x10_1).f6), .int .i64 ((rd_T38 l1 x10_1).f7.f0), .int .i64 ((rd_T38 l1 x10_1).f7.f1), .int .i64 ((rd_T38 l1 x10_1).f8), .int .i64 ((rd_T38 l1 x10_1).f9.f0), .int .i64 ((rd_T38 l1 x10_1).f9.f1), .slice A129_13 ((rd_T38 l1 x10_1).f10).length c129_13], .agg #[.int .i64 ((rd_T38 l1 x5_1).f0), .int .i64 ((rd_T38 l1 x5_1).f1), .int .i64 ((rd_T38 l1 x5_1).f2.f0), .int .i64 ((rd_T38 l1 x5_1).f2.f1), .int .i64 ((rd_T38 l1 x5_1).f3), .int .i64 ((rd_T38 l1 x5_1).f4), .bool ((rd_T38 l1 x5_1).f5), .bool ((rd_T38 l1 x5_1).f6), .int .i64 ((rd_T38 l1 x5_1).f7.f0), .int .i64 ((rd_T38 l1 x5_1).f7.f1), .int .i64 ((rd_T38 l1 x5_1).f8), .int .i64 ((rd_T38 l1 x5_1).f9.f0), .int .i64 ((rd_T38 l1 x5_1).f9.f1), .slice A132_13 ((rd_T38 l1 x5_1).f10).length c132_13]] (by rfl) rfl rfl (by (try simp only [List.map_toArray, List.map_cons, List.map_nil]); first | done | rfl | (simp only [List.length_drop, List.length_take]; rfl)) ?_
                      with_reducible refine (clepsydraref15_before.calls ((rd_T38 l1 x10_1).f0) ((rd_T38 l1 x10_1).f1) ((rd_T38 l1 x10_1).f2.f0) ((rd_T38 l1 x10_1).f2.f1) ((rd_T38 l1 x10_1).f3) ((rd_T38 l1 x10_1).f4) ((rd_T38 l1 x10_1).f5) ((rd_T38 l1 x10_1).f6) ((rd_T38 l1 x10_1).f7.f0) ((rd_T38 l1 x10_1).f7.f1) ((rd_T38 l1 x10_1).f8) ((rd_T38 l1 x10_1).f9.f0) ((rd_T38 l1 x10_1).f9.f1) _ _ ((rd_T38 l1 x10_1).f10) ((rd_T38 l1 x5_1).f0) ((rd_T38 l1 x5_1).f1) ((rd_T38 l1 x5_1).f2.f0) ((rd_T38 l1 x5_1).f2.f1) ((rd_T38 l1 x5_1).f3) ((rd_T38 l1 x5_1).f4) ((rd_T38 l1 x5_1).f5) ((rd_T38 l1 x5_1).f6) ((rd_T38 l1 x5_1).f7.f0) ((rd_T38 l1 x5_1).f7.f1) ((rd_T38 l1 x5_1).f8) ((rd_T38 l1 x5_1).f9.f0) ((rd_T38 l1 x5_1).f9.f1) _ _ ((rd_T38 l1 x5_1).f10) false _ ?side1 ?side2 ?side3 ?side4 A18.out).mono ?_
                      (case side1 => repeat (first | exact (Kd.C_below HR129_13.out HB.out) | (with_reducible refine Kd.C_alloc ?_ _) | (with_reducible refine Kd.C_drewN ?_ _) | (with_reducible refine Kd.C_drew ?_)))
                      (case side2 => exact HC129_13.out)
                      (case side3 => repeat (first | exact (Kd.C_below HR132_13.out HB.out) | (with_reducible refine Kd.C_alloc ?_ _) | (with_reducible refine Kd.C_drewN ?_ _) | (with_reducible refine Kd.C_drew ?_)))
                      (case side4 => exact HC132_13.out)
                      rintro e w33 ⟨rfl, hb⟩
                      refine ⟨_, rfl, ?_⟩
                      have n0_ := Aside0.mk (blk_below (g := gb128) (o := .cells #[.int .i64 a0_0, .int .i64 a0_1, .int .i64 a0_2, .int .i64 a0_3, .int .i64 a0_4, .int .i64 a0_5, .int .i64 a0_6, .int .i64 a0_7, .int .i64 a0_8, .int .i64 a0_9, .int .i64 a0_10, .int .i64 a0_11] 23 (0, 0)) (by (with_reducible repeat (first | refine blk_drewN ?_ _ | refine blk_drew ?_ | refine blk_alloc ?_ _)); exact BK128.out) hb)
                      have n1_ := Aside0.mk (blk_below (g := gb130) (o := .cells #[.int .i64 ((rd_T38 l1 x10_1).f0), .int .i64 ((rd_T38 l1 x10_1).f1), .int .i64 ((rd_T38 l1 x10_1).f2.f0), .int .i64 ((rd_T38 l1 x10_1).f2.f1), .int .i64 ((rd_T38 l1 x10_1).f3), .int .i64 ((rd_T38 l1 x10_1).f4), .bool ((rd_T38 l1 x10_1).f5), .bool ((rd_T38 l1 x10_1).f6), .int .i64 ((rd_T38 l1 x10_1).f7.f0), .int .i64 ((rd_T38 l1 x10_1).f7.f1), .int .i64 ((rd_T38 l1 x10_1).f8), .int .i64 ((rd_T38 l1 x10_1).f9.f0), .int .i64 ((rd_T38 l1 x10_1).f9.f1), .slice A129_13 ((rd_T38 l1 x10_1).f10).length c129_13] 38 (0, 0)) (by (with_reducible repeat (first | refine blk_drewN ?_ _ | refine blk_drew ?_ | refine blk_alloc ?_ _)); exact BK130.out) hb)
                      have n2_ := Aside0.mk (below_step (by repeat (first | (with_reducible first | exact HB.out | apply below_alloc | apply pw_below_drewN | apply below_drew1 | refine below_set ?_ GE128.out | refine below_set ?_ GE130.out) | exact HB.out)) hb)
                      clear BK128
                      clear BK130
                      clear HB
                      have BK128 := n0_
                      have BK130 := n1_
                      have HB := n2_
                      clear n0_ n1_ n2_
                      (try clear hb)
                      (try clear hb2)
                      (try clear hk)
                      (try clear hi)
                      refine hK.out _ _ ⟨(blk_cell BK128.out 0).trans rfl, (blk_cell BK128.out 1).trans rfl, (blk_cell BK128.out 2).trans rfl, (blk_cell BK128.out 3).trans rfl, (blk_cell BK128.out 4).trans rfl, (blk_cell BK128.out 5).trans rfl, (blk_cell BK128.out 6).trans rfl, (blk_cell BK128.out 7).trans rfl, (blk_cell BK128.out 8).trans rfl, (blk_cell BK128.out 9).trans rfl, (blk_cell BK128.out 10).trans rfl, (blk_cell BK128.out 11).trans rfl, (blk_cell BK130.out 0).trans rfl, (blk_cell BK130.out 1).trans rfl, (blk_cell BK130.out 2).trans rfl, (blk_cell BK130.out 3).trans rfl, (blk_cell BK130.out 4).trans rfl, (blk_cell BK130.out 5).trans rfl, (blk_cell BK130.out 6).trans rfl, (blk_cell BK130.out 7).trans rfl, (blk_cell BK130.out 8).trans rfl, (blk_cell BK130.out 9).trans rfl, (blk_cell BK130.out 10).trans rfl, (blk_cell BK130.out 11).trans rfl, (blk_cell BK130.out 12).trans rfl, (blk_cell BK130.out 13).trans rfl, ((HB.out.cell (World.block_lt_of_cell? w _ hw132_0)).trans hw132_0), ((HB.out.cell (World.block_lt_of_cell? w _ hw132_1)).trans hw132_1), ((HB.out.cell (World.block_lt_of_cell? w _ hw132_2)).trans hw132_2), ((HB.out.cell (World.block_lt_of_cell? w _ hw132_3)).trans hw132_3), ((HB.out.cell (World.block_lt_of_cell? w _ hw132_4)).trans hw132_4), ((HB.out.cell (World.block_lt_of_cell? w _ hw132_5)).trans hw132_5), ((HB.out.cell (World.block_lt_of_cell? w _ hw132_6)).trans hw132_6), ((HB.out.cell (World.block_lt_of_cell? w _ hw132_7)).trans hw132_7), ((HB.out.cell (World.block_lt_of_cell? w _ hw132_8)).trans hw132_8), ((HB.out.cell (World.block_lt_of_cell? w _ hw132_9)).trans hw132_9), ((HB.out.cell (World.block_lt_of_cell? w _ hw132_10)).trans hw132_10), ((HB.out.cell (World.block_lt_of_cell? w _ hw132_11)).trans hw132_11), ((HB.out.cell (World.block_lt_of_cell? w _ hw132_12)).trans hw132_12), ((HB.out.cell (World.block_lt_of_cell? w _ hw132_13)).trans hw132_13)⟩ (fun hHeld => ?_)
                      clear hK K
                      refine norm_ (a' := ?_) ?_ ?_
                      rotate_left
                      · show Act.put _ (some 27) _ = _
                        simp only [Act.put, List.setIfInBounds_toArray, List.set_cons_zero, List.set_cons_succ, i64_w, i32_w]
                        rfl
                      refine pure_ (i := 13) (N := some 28) (v := ?_) (a' := ?_) #[true, true, true, true, true, true, true, true, true, true, true, true, true, true, false] rfl rfl (any_of HT_.out (by kernel_rfl)) (fun _ _ _ h => h) (Or.inl ⟨by rfl, ?_⟩) ?_ ?_
                      rotate_left
                      · intro w'
                        go_simp
                        with_reducible rfl
                      rotate_left
                      · simp only [Act.put, List.setIfInBounds_toArray, List.set_cons_zero, List.set_cons_succ, i64_w, i32_w]
                        rfl
                      refine pure_ (i := 14) (N := some 29) (v := ?_) (a' := ?_) #[true, true, true, true, true, true, true, true, true, true, true, true, true, true, true] rfl rfl (any_of HT_.out (by kernel_rfl)) (fun _ _ _ h => h) (Or.inl ⟨by rfl, ?_⟩) ?_ ?_
                      rotate_left
                      · intro w'
                        go_simp
                        with_reducible rfl
                      rotate_left
                      · simp only [Act.put, List.setIfInBounds_toArray, List.set_cons_zero, List.set_cons_succ, i64_w, i32_w]
                        rfl
                      refine done_ (done_of HT_.out (by kernel_rfl)) ?_
                      try go_wp2
                      go_roundg k1
                      case measure => have := HK1.out; omega
                      case rel => exact ⟨(x5_1), (wrap64 (x10_1 + 1)), (by first | rfl | (simp; done) | (simp [*]; done)), (by first | rfl | (simp; done) | (simp [*]; done)), H', ⟨by have := HK1.out; omega⟩, ⟨by (with_reducible repeat (first | refine blk_drewN ?_ _ | refine blk_drew ?_ | refine blk_alloc ?_ _)); exact BK128.out⟩, ⟨by repeat (first | (with_reducible first | exact HB.out | apply below_alloc | apply pw_below_drewN | apply below_drew1 | refine below_set ?_ GE128.out | refine below_set ?_ GE130.out) | exact HB.out)⟩⟩
                  · rw [if_neg c17] at H
                    exact absurd H (by simp)
                · rw [if_neg c16] at H
                  exact absurd H (by simp)
            · replace c8 := Bool.eq_false_iff.mpr c8
              subst c8
              have H1 : (clepsydraref15_Choose.l0 k1 l1 x5_1 l1 (l1.length : Int) (wrap64 (x10_1 + 1)) a0_0 a0_1 a0_2 a0_3 a0_4 a0_5 a0_6 a0_7 a0_8 a0_9 a0_10 a0_11) = some r := by rw [if_neg (show ¬ (false = true) by decide)] at H; exact H
              clear H
              have H := H1
              clear H1
              have H' := Aside0.mk H
              clear H
              have p129 : 0 ≤ (x10_1 : Int) := of_decide_eq_true (by first | (with_reducible assumption) | assumption)
              have q129 : x10_1 < (l1.length : Int) := of_decide_eq_true (by first | (with_reducible assumption) | assumption)
              obtain ⟨ad129, A129_13, c129_13, e129, hx129_0, hx129_1, hx129_2, hx129_3, hx129_4, hx129_5, hx129_6, hx129_7, hx129_8, hx129_9, hx129_10, hx129_11, hx129_12, hx129_13, hl129_13, hi129_13⟩ := at_T38 HR1.out x10_1 p129 q129
              cases e129
              replace hx129_0 := (HB.out.cell (World.block_lt_of_cell? w _ hx129_0)).trans hx129_0
              replace hx129_1 := (HB.out.cell (World.block_lt_of_cell? w _ hx129_1)).trans hx129_1
              replace hx129_2 := (HB.out.cell (World.block_lt_of_cell? w _ hx129_2)).trans hx129_2
              replace hx129_3 := (HB.out.cell (World.block_lt_of_cell? w _ hx129_3)).trans hx129_3
              replace hx129_4 := (HB.out.cell (World.block_lt_of_cell? w _ hx129_4)).trans hx129_4
              replace hx129_5 := (HB.out.cell (World.block_lt_of_cell? w _ hx129_5)).trans hx129_5
              replace hx129_6 := (HB.out.cell (World.block_lt_of_cell? w _ hx129_6)).trans hx129_6
              replace hx129_7 := (HB.out.cell (World.block_lt_of_cell? w _ hx129_7)).trans hx129_7
              replace hx129_8 := (HB.out.cell (World.block_lt_of_cell? w _ hx129_8)).trans hx129_8
              replace hx129_9 := (HB.out.cell (World.block_lt_of_cell? w _ hx129_9)).trans hx129_9
              replace hx129_10 := (HB.out.cell (World.block_lt_of_cell? w _ hx129_10)).trans hx129_10
              replace hx129_11 := (HB.out.cell (World.block_lt_of_cell? w _ hx129_11)).trans hx129_11
              replace hx129_12 := (HB.out.cell (World.block_lt_of_cell? w _ hx129_12)).trans hx129_12
              replace hx129_13 := (HB.out.cell (World.block_lt_of_cell? w _ hx129_13)).trans hx129_13
              have HR129_13 := Aside0.mk hi129_13
              have HC129_13 := Aside0.mk hl129_13
              clear hi129_13 hl129_13
              replace p129 := eq_true p129
              replace q129 := eq_true q129
              try go_wp2_with (first | ((with_reducible refine gate_dst (N := 7) rfl ?_); refine box_event ?hg (N := 7) ?hd (cs := #[.int .i64 0, .int .i64 0, .int .i64 0, .int .i64 0, .int .i64 0, .int .i64 0, .bool false, .bool false, .int .i64 0, .int .i64 0, .int .i64 0, .int .i64 0, .int .i64 0, .slice none 0 0]) (t := 38) ?hr ?_; (case hd => rfl); (case hg => rfl); (case hr => first | (go_simp; done) | (go_simp; rfl)); intro gb130 hg w34 hbox hb; have n0_ := Aside0.mk (blk_below (g := gb128) (o := .cells #[.int .i64 a0_0, .int .i64 a0_1, .int .i64 a0_2, .int .i64 a0_3, .int .i64 a0_4, .int .i64 a0_5, .int .i64 a0_6, .int .i64 a0_7, .int .i64 a0_8, .int .i64 a0_9, .int .i64 a0_10, .int .i64 a0_11] 23 (0, 0)) (by (with_reducible repeat (first | refine blk_drewN ?_ _ | refine blk_drew ?_ | refine blk_alloc ?_ _)); exact BK128.out) hb); have n1_ := Aside0.mk (below_step (by repeat (first | (with_reducible first | exact HB.out | apply below_alloc | apply pw_below_drewN | apply below_drew1 | refine below_set ?_ GE128.out) | exact HB.out)) hb); have n2_ := Aside0.mk (hbox); have n3_ := Aside0.mk ((by rw [hg]; exact (below_size (by repeat (first | (with_reducible first | exact HB.out | apply below_alloc | apply pw_below_drewN | apply below_drew1 | refine below_set ?_ GE128.out) | exact HB.out))) : w.heap.size ≤ gb130)); have n4_ := Aside0.mk ((by rw [hg]; exact (below_size (by repeat (first | (with_reducible first | exact HB.out | apply below_alloc | apply pw_below_drewN | apply below_drew1 | refine below_set ?_ GE128.out) | exact HB.out))) : w.heap.size ≤ gb130)); have n5_ := Aside0.mk ((by rw [hg]; exact Nat.ne_of_lt (blk_lt (g := gb128) (o := .cells #[.int .i64 a0_0, .int .i64 a0_1, .int .i64 a0_2, .int .i64 a0_3, .int .i64 a0_4, .int .i64 a0_5, .int .i64 a0_6, .int .i64 a0_7, .int .i64 a0_8, .int .i64 a0_9, .int .i64 a0_10, .int .i64 a0_11] 23 (0, 0)) (by (with_reducible repeat (first | refine blk_drewN ?_ _ | refine blk_drew ?_ | refine blk_alloc ?_ _)); exact BK128.out)) : gb128 ≠ gb130)); have n6_ := Aside0.mk ((by rw [hg]; exact Nat.ne_of_gt (blk_lt (g := gb128) (o := .cells #[.int .i64 a0_0, .int .i64 a0_1, .int .i64 a0_2, .int .i64 a0_3, .int .i64 a0_4, .int .i64 a0_5, .int .i64 a0_6, .int .i64 a0_7, .int .i64 a0_8, .int .i64 a0_9, .int .i64 a0_10, .int .i64 a0_11] 23 (0, 0)) (by (with_reducible repeat (first | refine blk_drewN ?_ _ | refine blk_drew ?_ | refine blk_alloc ?_ _)); exact BK128.out)) : gb130 ≠ gb128)); clear BK128; clear HB; have BK128 := n0_; have HB := n1_; have BK130 := n2_; have GW130 := n3_; have GE130 := n4_; have NB128_130 := n5_; have NB130_128 := n6_; clear n0_ n1_ n2_ n3_ n4_ n5_ n6_; clear hb hbox hg; have hnb35 := NB130_128.out; have hnc35 := NB128_130.out; have hcz36_0 : w34.cell? ⟨gb130, 0, none⟩ = some (.int .i64 0) := (blk_cell BK130.out 0).trans rfl; have hcz36_1 : w34.cell? ⟨gb130, 1, none⟩ = some (.int .i64 0) := (blk_cell BK130.out 1).trans rfl; have hcz36_2 : w34.cell? ⟨gb130, 2, none⟩ = some (.int .i64 0) := (blk_cell BK130.out 2).trans rfl; have hcz36_3 : w34.cell? ⟨gb130, 3, none⟩ = some (.int .i64 0) := (blk_cell BK130.out 3).trans rfl; have hcz36_4 : w34.cell? ⟨gb130, 4, none⟩ = some (.int .i64 0) := (blk_cell BK130.out 4).trans rfl; have hcz36_5 : w34.cell? ⟨gb130, 5, none⟩ = some (.int .i64 0) := (blk_cell BK130.out 5).trans rfl; have hcz36_6 : w34.cell? ⟨gb130, 6, none⟩ = some (.bool false) := (blk_cell BK130.out 6).trans rfl; have hcz36_7 : w34.cell? ⟨gb130, 7, none⟩ = some (.bool false) := (blk_cell BK130.out 7).trans rfl; have hcz36_8 : w34.cell? ⟨gb130, 8, none⟩ = some (.int .i64 0) := (blk_cell BK130.out 8).trans rfl; have hcz36_9 : w34.cell? ⟨gb130, 9, none⟩ = some (.int .i64 0) := (blk_cell BK130.out 9).trans rfl; have hcz36_10 : w34.cell? ⟨gb130, 10, none⟩ = some (.int .i64 0) := (blk_cell BK130.out 10).trans rfl; have hcz36_11 : w34.cell? ⟨gb130, 11, none⟩ = some (.int .i64 0) := (blk_cell BK130.out 11).trans rfl; have hcz36_12 : w34.cell? ⟨gb130, 12, none⟩ = some (.int .i64 0) := (blk_cell BK130.out 12).trans rfl; have hcz36_13 : w34.cell? ⟨gb130, 13, none⟩ = some (.slice none 0 0) := (blk_cell BK130.out 13).trans rfl; have hfz36_0 := blk_frozen BK130.out 0; have hfz36_1 := blk_frozen BK130.out 1; have hfz36_2 := blk_frozen BK130.out 2; have hfz36_3 := blk_frozen BK130.out 3; have hfz36_4 := blk_frozen BK130.out 4; have hfz36_5 := blk_frozen BK130.out 5; have hfz36_6 := blk_frozen BK130.out 6; have hfz36_7 := blk_frozen BK130.out 7; have hfz36_8 := blk_frozen BK130.out 8; have hfz36_9 := blk_frozen BK130.out 9; have hfz36_10 := blk_frozen BK130.out 10; have hfz36_11 := blk_frozen BK130.out 11; have hfz36_12 := blk_frozen BK130.out 12; have hfz36_13 := blk_frozen BK130.out 13))
              have n0_ : Aside0 (((((((((((((((w34.setCell ⟨gb130, 0, none⟩ (.int .i64 ((rd_T38 l1 x10_1).f0))).setCell ⟨gb130, 1, none⟩ (.int .i64 ((rd_T38 l1 x10_1).f1))).setCell ⟨gb130, 2, none⟩ (.int .i64 ((rd_T38 l1 x10_1).f2.f0))).setCell ⟨gb130, 3, none⟩ (.int .i64 ((rd_T38 l1 x10_1).f2.f1))).setCell ⟨gb130, 4, none⟩ (.int .i64 ((rd_T38 l1 x10_1).f3))).setCell ⟨gb130, 5, none⟩ (.int .i64 ((rd_T38 l1 x10_1).f4))).setCell ⟨gb130, 6, none⟩ (.bool ((rd_T38 l1 x10_1).f5))).setCell ⟨gb130, 7, none⟩ (.bool ((rd_T38 l1 x10_1).f6))).setCell ⟨gb130, 8, none⟩ (.int .i64 ((rd_T38 l1 x10_1).f7.f0))).setCell ⟨gb130, 9, none⟩ (.int .i64 ((rd_T38 l1 x10_1).f7.f1))).setCell ⟨gb130, 10, none⟩ (.int .i64 ((rd_T38 l1 x10_1).f8))).setCell ⟨gb130, 11, none⟩ (.int .i64 ((rd_T38 l1 x10_1).f9.f0))).setCell ⟨gb130, 12, none⟩ (.int .i64 ((rd_T38 l1 x10_1).f9.f1))).setCell ⟨gb130, 13, none⟩ (.slice A129_13 ((rd_T38 l1 x10_1).f10).length c129_13)).heap[gb128]? = some (.cells #[.int .i64 a0_0, .int .i64 a0_1, .int .i64 a0_2, .int .i64 a0_3, .int .i64 a0_4, .int .i64 a0_5, .int .i64 a0_6, .int .i64 a0_7, .int .i64 a0_8, .int .i64 a0_9, .int .i64 a0_10, .int .i64 a0_11] 23 (0, 0))) := ⟨by (with_reducible repeat (first | refine blk_drewN ?_ _ | refine blk_drew ?_ | refine blk_alloc ?_ _)); refine blk_far ?_ NB128_130.out _; (with_reducible repeat (first | refine blk_drewN ?_ _ | refine blk_drew ?_ | refine blk_alloc ?_ _)); refine blk_far ?_ NB128_130.out _; (with_reducible repeat (first | refine blk_drewN ?_ _ | refine blk_drew ?_ | refine blk_alloc ?_ _)); refine blk_far ?_ NB128_130.out _; (with_reducible repeat (first | refine blk_drewN ?_ _ | refine blk_drew ?_ | refine blk_alloc ?_ _)); refine blk_far ?_ NB128_130.out _; (with_reducible repeat (first | refine blk_drewN ?_ _ | refine blk_drew ?_ | refine blk_alloc ?_ _)); refine blk_far ?_ NB128_130.out _; (with_reducible repeat (first | refine blk_drewN ?_ _ | refine blk_drew ?_ | refine blk_alloc ?_ _)); refine blk_far ?_ NB128_130.out _; (with_reducible repeat (first | refine blk_drewN ?_ _ | refine blk_drew ?_ | refine blk_alloc ?_ _)); refine blk_far ?_ NB128_130.out _; (with_reducible repeat (first | refine blk_drewN ?_ _ | refine blk_drew ?_ | refine blk_alloc ?_ _)); refine blk_far ?_ NB128_130.out _; (with_reducible repeat (first | refine blk_drewN ?_ _ | refine blk_drew ?_ | refine blk_alloc ?_ _)); refine blk_far ?_ NB128_130.out _; (with_reducible repeat (first | refine blk_drewN ?_ _ | refine blk_drew ?_ | refine blk_alloc ?_ _)); refine blk_far ?_ NB128_130.out _; (with_reducible repeat (first | refine blk_drewN ?_ _ | refine blk_drew ?_ | refine blk_alloc ?_ _)); refine blk_far ?_ NB128_130.out _; (with_reducible repeat (first | refine blk_drewN ?_ _ | refine blk_drew ?_ | refine blk_alloc ?_ _)); refine blk_far ?_ NB128_130.out _; (with_reducible repeat (first | refine blk_drewN ?_ _ | refine blk_drew ?_ | refine blk_alloc ?_ _)); refine blk_far ?_ NB128_130.out _; (with_reducible repeat (first | refine blk_drewN ?_ _ | refine blk_drew ?_ | refine blk_alloc ?_ _)); refine blk_far ?_ NB128_130.out _; (with_reducible repeat (first | refine blk_drewN ?_ _ | refine blk_drew ?_ | refine blk_alloc ?_ _)); exact BK128.out⟩
              have n1_ : Aside0 (((((((((((((((w34.setCell ⟨gb130, 0, none⟩ (.int .i64 ((rd_T38 l1 x10_1).f0))).setCell ⟨gb130, 1, none⟩ (.int .i64 ((rd_T38 l1 x10_1).f1))).setCell ⟨gb130, 2, none⟩ (.int .i64 ((rd_T38 l1 x10_1).f2.f0))).setCell ⟨gb130, 3, none⟩ (.int .i64 ((rd_T38 l1 x10_1).f2.f1))).setCell ⟨gb130, 4, none⟩ (.int .i64 ((rd_T38 l1 x10_1).f3))).setCell ⟨gb130, 5, none⟩ (.int .i64 ((rd_T38 l1 x10_1).f4))).setCell ⟨gb130, 6, none⟩ (.bool ((rd_T38 l1 x10_1).f5))).setCell ⟨gb130, 7, none⟩ (.bool ((rd_T38 l1 x10_1).f6))).setCell ⟨gb130, 8, none⟩ (.int .i64 ((rd_T38 l1 x10_1).f7.f0))).setCell ⟨gb130, 9, none⟩ (.int .i64 ((rd_T38 l1 x10_1).f7.f1))).setCell ⟨gb130, 10, none⟩ (.int .i64 ((rd_T38 l1 x10_1).f8))).setCell ⟨gb130, 11, none⟩ (.int .i64 ((rd_T38 l1 x10_1).f9.f0))).setCell ⟨gb130, 12, none⟩ (.int .i64 ((rd_T38 l1 x10_1).f9.f1))).setCell ⟨gb130, 13, none⟩ (.slice A129_13 ((rd_T38 l1 x10_1).f10).length c129_13)).heap[gb130]? = some (.cells #[.int .i64 ((rd_T38 l1 x10_1).f0), .int .i64 ((rd_T38 l1 x10_1).f1), .int .i64 ((rd_T38 l1 x10_1).f2.f0), .int .i64 ((rd_T38 l1 x10_1).f2.f1), .int .i64 ((rd_T38 l1 x10_1).f3), .int .i64 ((rd_T38 l1 x10_1).f4), .bool ((rd_T38 l1 x10_1).f5), .bool ((rd_T38 l1 x10_1).f6), .int .i64 ((rd_T38 l1 x10_1).f7.f0), .int .i64 ((rd_T38 l1 x10_1).f7.f1), .int .i64 ((rd_T38 l1 x10_1).f8), .int .i64 ((rd_T38 l1 x10_1).f9.f0), .int .i64 ((rd_T38 l1 x10_1).f9.f1), .slice A129_13 ((rd_T38 l1 x10_1).f10).length c129_13] 38 (0, 0))) := ⟨by (with_reducible repeat (first | refine blk_drewN ?_ _ | refine blk_drew ?_ | refine blk_alloc ?_ _)); refine blk_put (cs := #[.int .i64 ((rd_T38 l1 x10_1).f0), .int .i64 ((rd_T38 l1 x10_1).f1), .int .i64 ((rd_T38 l1 x10_1).f2.f0), .int .i64 ((rd_T38 l1 x10_1).f2.f1), .int .i64 ((rd_T38 l1 x10_1).f3), .int .i64 ((rd_T38 l1 x10_1).f4), .bool ((rd_T38 l1 x10_1).f5), .bool ((rd_T38 l1 x10_1).f6), .int .i64 ((rd_T38 l1 x10_1).f7.f0), .int .i64 ((rd_T38 l1 x10_1).f7.f1), .int .i64 ((rd_T38 l1 x10_1).f8), .int .i64 ((rd_T38 l1 x10_1).f9.f0), .int .i64 ((rd_T38 l1 x10_1).f9.f1), .slice none 0 0]) ?_ 13 _ rfl; (with_reducible repeat (first | refine blk_drewN ?_ _ | refine blk_drew ?_ | refine blk_alloc ?_ _)); refine blk_put (cs := #[.int .i64 ((rd_T38 l1 x10_1).f0), .int .i64 ((rd_T38 l1 x10_1).f1), .int .i64 ((rd_T38 l1 x10_1).f2.f0), .int .i64 ((rd_T38 l1 x10_1).f2.f1), .int .i64 ((rd_T38 l1 x10_1).f3), .int .i64 ((rd_T38 l1 x10_1).f4), .bool ((rd_T38 l1 x10_1).f5), .bool ((rd_T38 l1 x10_1).f6), .int .i64 ((rd_T38 l1 x10_1).f7.f0), .int .i64 ((rd_T38 l1 x10_1).f7.f1), .int .i64 ((rd_T38 l1 x10_1).f8), .int .i64 ((rd_T38 l1 x10_1).f9.f0), .int .i64 0, .slice none 0 0]) ?_ 12 _ rfl; (with_reducible repeat (first | refine blk_drewN ?_ _ | refine blk_drew ?_ | refine blk_alloc ?_ _)); refine blk_put (cs := #[.int .i64 ((rd_T38 l1 x10_1).f0), .int .i64 ((rd_T38 l1 x10_1).f1), .int .i64 ((rd_T38 l1 x10_1).f2.f0), .int .i64 ((rd_T38 l1 x10_1).f2.f1), .int .i64 ((rd_T38 l1 x10_1).f3), .int .i64 ((rd_T38 l1 x10_1).f4), .bool ((rd_T38 l1 x10_1).f5), .bool ((rd_T38 l1 x10_1).f6), .int .i64 ((rd_T38 l1 x10_1).f7.f0), .int .i64 ((rd_T38 l1 x10_1).f7.f1), .int .i64 ((rd_T38 l1 x10_1).f8), .int .i64 0, .int .i64 0, .slice none 0 0]) ?_ 11 _ rfl; (with_reducible repeat (first | refine blk_drewN ?_ _ | refine blk_drew ?_ | refine blk_alloc ?_ _)); refine blk_put (cs := #[.int .i64 ((rd_T38 l1 x10_1).f0), .int .i64 ((rd_T38 l1 x10_1).f1), .int .i64 ((rd_T38 l1 x10_1).f2.f0), .int .i64 ((rd_T38 l1 x10_1).f2.f1), .int .i64 ((rd_T38 l1 x10_1).f3), .int .i64 ((rd_T38 l1 x10_1).f4), .bool ((rd_T38 l1 x10_1).f5), .bool ((rd_T38 l1 x10_1).f6), .int .i64 ((rd_T38 l1 x10_1).f7.f0), .int .i64 ((rd_T38 l1 x10_1).f7.f1), .int .i64 0, .int .i64 0, .int .i64 0, .slice none 0 0]) ?_ 10 _ rfl; (with_reducible repeat (first | refine blk_drewN ?_ _ | refine blk_drew ?_ | refine blk_alloc ?_ _)); refine blk_put (cs := #[.int .i64 ((rd_T38 l1 x10_1).f0), .int .i64 ((rd_T38 l1 x10_1).f1), .int .i64 ((rd_T38 l1 x10_1).f2.f0), .int .i64 ((rd_T38 l1 x10_1).f2.f1), .int .i64 ((rd_T38 l1 x10_1).f3), .int .i64 ((rd_T38 l1 x10_1).f4), .bool ((rd_T38 l1 x10_1).f5), .bool ((rd_T38 l1 x10_1).f6), .int .i64 ((rd_T38 l1 x10_1).f7.f0), .int .i64 0, .int .i64 0, .int .i64 0, .int .i64 0, .slice none 0 0]) ?_ 9 _ rfl; (with_reducible repeat (first | refine blk_drewN ?_ _ | refine blk_drew ?_ | refine blk_alloc ?_ _)); refine blk_put (cs := #[.int .i64 ((rd_T38 l1 x10_1).f0), .int .i64 ((rd_T38 l1 x10_1).f1), .int .i64 ((rd_T38 l1 x10_1).f2.f0), .int .i64 ((rd_T38 l1 x10_1).f2.f1), .int .i64 ((rd_T38 l1 x10_1).f3), .int .i64 ((rd_T38 l1 x10_1).f4), .bool ((rd_T38 l1 x10_1).f5), .bool ((rd_T38 l1 x10_1).f6), .int .i64 0, .int .i64 0, .int .i64 0, .int .i64 0, .int .i64 0, .slice none 0 0]) ?_ 8 _ rfl; (with_reducible repeat (first | refine blk_drewN ?_ _ | refine blk_drew ?_ | refine blk_alloc ?_ _)); refine blk_put (cs := #[.int .i64 ((rd_T38 l1 x10_1).f0), .int .i64 ((rd_T38 l1 x10_1).f1), .int .i64 ((rd_T38 l1 x10_1).f2.f0), .int .i64 ((rd_T38 l1 x10_1).f2.f1), .int .i64 ((rd_T38 l1 x10_1).f3), .int .i64 ((rd_T38 l1 x10_1).f4), .bool ((rd_T38 l1 x10_1).f5), .bool false, .int .i64 0, .int .i64 0, .int .i64 0, .int .i64 0, .int .i64 0, .slice none 0 0]) ?_ 7 _ rfl; (with_reducible repeat (first | refine blk_drewN ?_ _ | refine blk_drew ?_ | refine blk_alloc ?_ _)); refine blk_put (cs := #[.int .i64 ((rd_T38 l1 x10_1).f0), .int .i64 ((rd_T38 l1 x10_1).f1), .int .i64 ((rd_T38 l1 x10_1).f2.f0), .int .i64 ((rd_T38 l1 x10_1).f2.f1), .int .i64 ((rd_T38 l1 x10_1).f3), .int .i64 ((rd_T38 l1 x10_1).f4), .bool false, .bool false, .int .i64 0, .int .i64 0, .int .i64 0, .int .i64 0, .int .i64 0, .slice none 0 0]) ?_ 6 _ rfl; (with_reducible repeat (first | refine blk_drewN ?_ _ | refine blk_drew ?_ | refine blk_alloc ?_ _)); refine blk_put (cs := #[.int .i64 ((rd_T38 l1 x10_1).f0), .int .i64 ((rd_T38 l1 x10_1).f1), .int .i64 ((rd_T38 l1 x10_1).f2.f0), .int .i64 ((rd_T38 l1 x10_1).f2.f1), .int .i64 ((rd_T38 l1 x10_1).f3), .int .i64 0, .bool false, .bool false, .int .i64 0, .int .i64 0, .int .i64 0, .int .i64 0, .int .i64 0, .slice none 0 0]) ?_ 5 _ rfl; (with_reducible repeat (first | refine blk_drewN ?_ _ | refine blk_drew ?_ | refine blk_alloc ?_ _)); refine blk_put (cs := #[.int .i64 ((rd_T38 l1 x10_1).f0), .int .i64 ((rd_T38 l1 x10_1).f1), .int .i64 ((rd_T38 l1 x10_1).f2.f0), .int .i64 ((rd_T38 l1 x10_1).f2.f1), .int .i64 0, .int .i64 0, .bool false, .bool false, .int .i64 0, .int .i64 0, .int .i64 0, .int .i64 0, .int .i64 0, .slice none 0 0]) ?_ 4 _ rfl; (with_reducible repeat (first | refine blk_drewN ?_ _ | refine blk_drew ?_ | refine blk_alloc ?_ _)); refine blk_put (cs := #[.int .i64 ((rd_T38 l1 x10_1).f0), .int .i64 ((rd_T38 l1 x10_1).f1), .int .i64 ((rd_T38 l1 x10_1).f2.f0), .int .i64 0, .int .i64 0, .int .i64 0, .bool false, .bool false, .int .i64 0, .int .i64 0, .int .i64 0, .int .i64 0, .int .i64 0, .slice none 0 0]) ?_ 3 _ rfl; (with_reducible repeat (first | refine blk_drewN ?_ _ | refine blk_drew ?_ | refine blk_alloc ?_ _)); refine blk_put (cs := #[.int .i64 ((rd_T38 l1 x10_1).f0), .int .i64 ((rd_T38 l1 x10_1).f1), .int .i64 0, .int .i64 0, .int .i64 0, .int .i64 0, .bool false, .bool false, .int .i64 0, .int .i64 0, .int .i64 0, .int .i64 0, .int .i64 0, .slice none 0 0]) ?_ 2 _ rfl; (with_reducible repeat (first | refine blk_drewN ?_ _ | refine blk_drew ?_ | refine blk_alloc ?_ _)); refine blk_put (cs := #[.int .i64 ((rd_T38 l1 x10_1).f0), .int .i64 0, .int .i64 0, .int .i64 0, .int .i64 0, .int .i64 0, .bool false, .bool false, .int .i64 0, .int .i64 0, .int .i64 0, .int .i64 0, .int .i64 0, .slice none 0 0]) ?_ 1 _ rfl; (with_reducible repeat (first | refine blk_drewN ?_ _ | refine blk_drew ?_ | refine blk_alloc ?_ _)); refine blk_put (cs := #[.int .i64 0, .int .i64 0, .int .i64 0, .int .i64 0, .int .i64 0, .int .i64 0, .bool false, .bool false, .int .i64 0, .int .i64 0, .int .i64 0, .int .i64 0, .int .i64 0, .slice none 0 0]) ?_ 0 _ rfl; (with_reducible repeat (first | refine blk_drewN ?_ _ | refine blk_drew ?_ | refine blk_alloc ?_ _)); exact BK130.out⟩
              have n2_ : Aside0 (Below w.heap.size w ((((((((((((((w34.setCell ⟨gb130, 0, none⟩ (.int .i64 ((rd_T38 l1 x10_1).f0))).setCell ⟨gb130, 1, none⟩ (.int .i64 ((rd_T38 l1 x10_1).f1))).setCell ⟨gb130, 2, none⟩ (.int .i64 ((rd_T38 l1 x10_1).f2.f0))).setCell ⟨gb130, 3, none⟩ (.int .i64 ((rd_T38 l1 x10_1).f2.f1))).setCell ⟨gb130, 4, none⟩ (.int .i64 ((rd_T38 l1 x10_1).f3))).setCell ⟨gb130, 5, none⟩ (.int .i64 ((rd_T38 l1 x10_1).f4))).setCell ⟨gb130, 6, none⟩ (.bool ((rd_T38 l1 x10_1).f5))).setCell ⟨gb130, 7, none⟩ (.bool ((rd_T38 l1 x10_1).f6))).setCell ⟨gb130, 8, none⟩ (.int .i64 ((rd_T38 l1 x10_1).f7.f0))).setCell ⟨gb130, 9, none⟩ (.int .i64 ((rd_T38 l1 x10_1).f7.f1))).setCell ⟨gb130, 10, none⟩ (.int .i64 ((rd_T38 l1 x10_1).f8))).setCell ⟨gb130, 11, none⟩ (.int .i64 ((rd_T38 l1 x10_1).f9.f0))).setCell ⟨gb130, 12, none⟩ (.int .i64 ((rd_T38 l1 x10_1).f9.f1))).setCell ⟨gb130, 13, none⟩ (.slice A129_13 ((rd_T38 l1 x10_1).f10).length c129_13))) := ⟨by repeat (first | (with_reducible first | exact HB.out | apply below_alloc | apply pw_below_drewN | apply below_drew1 | refine below_set ?_ GE128.out | refine below_set ?_ GE130.out) | exact HB.out)⟩
              (try clear BK128)
              (try clear BK130)
              (try clear HB)
              generalize ((((((((((((((w34.setCell ⟨gb130, 0, none⟩ (.int .i64 ((rd_T38 l1 x10_1).f0))).setCell ⟨gb130, 1, none⟩ (.int .i64 ((rd_T38 l1 x10_1).f1))).setCell ⟨gb130, 2, none⟩ (.int .i64 ((rd_T38 l1 x10_1).f2.f0))).setCell ⟨gb130, 3, none⟩ (.int .i64 ((rd_T38 l1 x10_1).f2.f1))).setCell ⟨gb130, 4, none⟩ (.int .i64 ((rd_T38 l1 x10_1).f3))).setCell ⟨gb130, 5, none⟩ (.int .i64 ((rd_T38 l1 x10_1).f4))).setCell ⟨gb130, 6, none⟩ (.bool ((rd_T38 l1 x10_1).f5))).setCell ⟨gb130, 7, none⟩ (.bool ((rd_T38 l1 x10_1).f6))).setCell ⟨gb130, 8, none⟩ (.int .i64 ((rd_T38 l1 x10_1).f7.f0))).setCell ⟨gb130, 9, none⟩ (.int .i64 ((rd_T38 l1 x10_1).f7.f1))).setCell ⟨gb130, 10, none⟩ (.int .i64 ((rd_T38 l1 x10_1).f8))).setCell ⟨gb130, 11, none⟩ (.int .i64 ((rd_T38 l1 x10_1).f9.f0))).setCell ⟨gb130, 12, none⟩ (.int .i64 ((rd_T38 l1 x10_1).f9.f1))).setCell ⟨gb130, 13, none⟩ (.slice A129_13 ((rd_T38 l1 x10_1).f10).length c129_13)) = w37 at n0_ n1_ n2_ ⊢
              have BK128 := n0_
              have BK130 := n1_
              have HB := n2_
              clear n0_ n1_ n2_
              have n0_ := Aside0.mk (blk_drew BK128.out)
              have n1_ := Aside0.mk (blk_drew BK130.out)
              have n2_ := Aside0.mk (below_drew1 HB.out)
              clear BK128
              clear BK130
              clear HB
              have BK128 := n0_
              have BK130 := n1_
              have HB := n2_
              clear n0_ n1_ n2_
              refine start_ (n := 15) (S := fun w' => w'.cell? ⟨gb128, 0, none⟩ = some (.int .i64 a0_0) ∧ w'.cell? ⟨gb128, 1, none⟩ = some (.int .i64 a0_1) ∧ w'.cell? ⟨gb128, 2, none⟩ = some (.int .i64 a0_2) ∧ w'.cell? ⟨gb128, 3, none⟩ = some (.int .i64 a0_3) ∧ w'.cell? ⟨gb128, 4, none⟩ = some (.int .i64 a0_4) ∧ w'.cell? ⟨gb128, 5, none⟩ = some (.int .i64 a0_5) ∧ w'.cell? ⟨gb128, 6, none⟩ = some (.int .i64 a0_6) ∧ w'.cell? ⟨gb128, 7, none⟩ = some (.int .i64 a0_7) ∧ w'.cell? ⟨gb128, 8, none⟩ = some (.int .i64 a0_8) ∧ w'.cell? ⟨gb128, 9, none⟩ = some (.int .i64 a0_9) ∧ w'.cell? ⟨gb128, 10, none⟩ = some (.int .i64 a0_10) ∧ w'.cell? ⟨gb128, 11, none⟩ = some (.int .i64 a0_11) ∧ w'.cell? ⟨gb130, 0, none⟩ = some (.int .i64 ((rd_T38 l1 x10_1).f0)) ∧ w'.cell? ⟨gb130, 1, none⟩ = some (.int .i64 ((rd_T38 l1 x10_1).f1)) ∧ w'.cell? ⟨gb130, 2, none⟩ = some (.int .i64 ((rd_T38 l1 x10_1).f2.f0)) ∧ w'.cell? ⟨gb130, 3, none⟩ = some (.int .i64 ((rd_T38 l1 x10_1).f2.f1)) ∧ w'.cell? ⟨gb130, 4, none⟩ = some (.int .i64 ((rd_T38 l1 x10_1).f3)) ∧ w'.cell? ⟨gb130, 5, none⟩ = some (.int .i64 ((rd_T38 l1 x10_1).f4)) ∧ w'.cell? ⟨gb130, 6, none⟩ = some (.bool ((rd_T38 l1 x10_1).f5)) ∧ w'.cell? ⟨gb130, 7, none⟩ = some (.bool ((rd_T38 l1 x10_1).f6)) ∧ w'.cell? ⟨gb130, 8, none⟩ = some (.int .i64 ((rd_T38 l1 x10_1).f7.f0)) ∧ w'.cell? ⟨gb130, 9, none⟩ = some (.int .i64 ((rd_T38 l1 x10_1).f7.f1)) ∧ w'.cell? ⟨gb130, 10, none⟩ = some (.int .i64 ((rd_T38 l1 x10_1).f8)) ∧ w'.cell? ⟨gb130, 11, none⟩ = some (.int .i64 ((rd_T38 l1 x10_1).f9.f0)) ∧ w'.cell? ⟨gb130, 12, none⟩ = some (.int .i64 ((rd_T38 l1 x10_1).f9.f1)) ∧ w'.cell? ⟨gb130, 13, none⟩ = some (.slice A129_13 ((rd_T38 l1 x10_1).f10).length c129_13)) (ds := []) #[false, false, false, false, false, false, false, false, false, false, false, false, false, false, false] (by kernel_rfl) rfl rfl ⟨(blk_cell BK128.out 0).trans rfl, (blk_cell BK128.out 1).trans rfl, (blk_cell BK128.out 2).trans rfl, (blk_cell BK128.out 3).trans rfl, (blk_cell BK128.out 4).trans rfl, (blk_cell BK128.out 5).trans rfl, (blk_cell BK128.out 6).trans rfl, (blk_cell BK128.out 7).trans rfl, (blk_cell BK128.out 8).trans rfl, (blk_cell BK128.out 9).trans rfl, (blk_cell BK128.out 10).trans rfl, (blk_cell BK128.out 11).trans rfl, (blk_cell BK130.out 0).trans rfl, (blk_cell BK130.out 1).trans rfl, (blk_cell BK130.out 2).trans rfl, (blk_cell BK130.out 3).trans rfl, (blk_cell BK130.out 4).trans rfl, (blk_cell BK130.out 5).trans rfl, (blk_cell BK130.out 6).trans rfl, (blk_cell BK130.out 7).trans rfl, (blk_cell BK130.out 8).trans rfl, (blk_cell BK130.out 9).trans rfl, (blk_cell BK130.out 10).trans rfl, (blk_cell BK130.out 11).trans rfl, (blk_cell BK130.out 12).trans rfl, (blk_cell BK130.out 13).trans rfl⟩ (fun hHeld => ?_); refine with_tabW clepsydraref15_Choose.tab5 clepsydraref15_Choose.bits5 (fun HT_ HW_ => ?_)
              generalize w37.drew = w38 at BK128 BK130 HB hHeld ⊢
              refine take_ (i := 0) (N := some 15) (v := ?_) (a' := ?_) #[true, false, false, false, false, false, false, false, false, false, false, false, false, false, false] rfl rfl (take_ofW HT_.out HW_.out (by kernel_rfl)) (fun _ _ _ h => h) (Or.inl ⟨by rfl, ?_⟩) hHeld ?_ ?_
              rotate_left
              · rintro w' ⟨s0, s1, s2, s3, s4, s5, s6, s7, s8, s9, s10, s11, s12, s13, s14, s15, s16, s17, s18, s19, s20, s21, s22, s23, s24, s25⟩
                go_simp
                with_reducible rfl
              rotate_left
              · simp only [Act.put, List.setIfInBounds_toArray, List.set_cons_zero, List.set_cons_succ, i64_w, i32_w]
                rfl
              refine take_ (i := 1) (N := some 16) (v := ?_) (a' := ?_) #[true, true, false, false, false, false, false, false, false, false, false, false, false, false, false] rfl rfl (take_ofW HT_.out HW_.out (by kernel_rfl)) (fun _ _ _ h => h) (Or.inl ⟨by rfl, ?_⟩) hHeld ?_ ?_
              rotate_left
              · rintro w' ⟨s0, s1, s2, s3, s4, s5, s6, s7, s8, s9, s10, s11, s12, s13, s14, s15, s16, s17, s18, s19, s20, s21, s22, s23, s24, s25⟩
                go_simp
                with_reducible rfl
              rotate_left
              · simp only [Act.put, List.setIfInBounds_toArray, List.set_cons_zero, List.set_cons_succ, i64_w, i32_w]
                rfl
              refine one_ (i := 2) (N := some 17) #[true, true, true, false, false, false, false, false, false, false, false, false, false, false, false] rfl rfl (one_of HT_.out (by kernel_rfl)) (by decide) (fun K hK => ?_)
              refine goes_ Try.func18 (by kernel_rfl) rfl #[.agg #[.int .i64 a0_0, .int .i64 a0_1, .int .i64 a0_2, .int .i64 a0_3, .int .i64 a0_4, .int .i64 a0_5, .int .i64 a0_6, .int .i64 a0_7, .int .i64 a0_8, .int .i64 a0_9, .int .i64 a0_10, .int .i64 a0_11], .agg #[.int .i64 ((rd_T38 l1 x10_1).f0), .int .i64 ((rd_T38 l1 x10_1).f1), .int .i64 ((rd_T38 l1 x10_1).f2.f0), .int .i64 ((rd_T38 l1 x10_1).f2.f1), .int .i64 ((rd_T38 l1 x10_1).f3), .int .i64 ((rd_T38 l1 x10_1).f4), .bool ((rd_T38 l1 x10_1).f5), .bool ((rd_T38 l1 x10_1).f6), .int .i64 ((rd_T38 l1 x10_1).f7.f0), .int .i64 ((rd_T38 l1 x10_1).f7.f1), .int .i64 ((rd_T38 l1 x10_1).f8), .int .i64 ((rd_T38 l1 x10_1).f9.f0), .int .i64 ((rd_T38 l1 x10_1).f9.f1), .slice A129_13 ((rd_T38 l1 x10_1).f10).length c129_13]] (by rfl) rfl rfl (by (try simp only [List.map_toArray, List.map_cons, List.map_nil]); first | done | rfl | (simp only [List.length_drop, List.length_take]; rfl)) ?_
              with_reducible refine (clepsydraref15_Usable.calls a0_0 a0_1 a0_2 a0_3 a0_4 a0_5 a0_6 a0_7 a0_8 a0_9 a0_10 a0_11 ((rd_T38 l1 x10_1).f0) ((rd_T38 l1 x10_1).f1) ((rd_T38 l1 x10_1).f2.f0) ((rd_T38 l1 x10_1).f2.f1) ((rd_T38 l1 x10_1).f3) ((rd_T38 l1 x10_1).f4) ((rd_T38 l1 x10_1).f5) ((rd_T38 l1 x10_1).f6) ((rd_T38 l1 x10_1).f7.f0) ((rd_T38 l1 x10_1).f7.f1) ((rd_T38 l1 x10_1).f8) ((rd_T38 l1 x10_1).f9.f0) ((rd_T38 l1 x10_1).f9.f1) _ _ ((rd_T38 l1 x10_1).f10) false _ ?side1 ?side2 A7.out).mono ?_
              (case side1 => repeat (first | exact (Kd.C_below HR129_13.out HB.out) | (with_reducible refine Kd.C_alloc ?_ _) | (with_reducible refine Kd.C_drewN ?_ _) | (with_reducible refine Kd.C_drew ?_)))
              (case side2 => exact HC129_13.out)
              rintro e w39 ⟨rfl, hb⟩
              refine ⟨_, rfl, ?_⟩
              have n0_ := Aside0.mk (blk_below (g := gb128) (o := .cells #[.int .i64 a0_0, .int .i64 a0_1, .int .i64 a0_2, .int .i64 a0_3, .int .i64 a0_4, .int .i64 a0_5, .int .i64 a0_6, .int .i64 a0_7, .int .i64 a0_8, .int .i64 a0_9, .int .i64 a0_10, .int .i64 a0_11] 23 (0, 0)) (by (with_reducible repeat (first | refine blk_drewN ?_ _ | refine blk_drew ?_ | refine blk_alloc ?_ _)); exact BK128.out) hb)
              have n1_ := Aside0.mk (blk_below (g := gb130) (o := .cells #[.int .i64 ((rd_T38 l1 x10_1).f0), .int .i64 ((rd_T38 l1 x10_1).f1), .int .i64 ((rd_T38 l1 x10_1).f2.f0), .int .i64 ((rd_T38 l1 x10_1).f2.f1), .int .i64 ((rd_T38 l1 x10_1).f3), .int .i64 ((rd_T38 l1 x10_1).f4), .bool ((rd_T38 l1 x10_1).f5), .bool ((rd_T38 l1 x10_1).f6), .int .i64 ((rd_T38 l1 x10_1).f7.f0), .int .i64 ((rd_T38 l1 x10_1).f7.f1), .int .i64 ((rd_T38 l1 x10_1).f8), .int .i64 ((rd_T38 l1 x10_1).f9.f0), .int .i64 ((rd_T38 l1 x10_1).f9.f1), .slice A129_13 ((rd_T38 l1 x10_1).f10).length c129_13] 38 (0, 0)) (by (with_reducible repeat (first | refine blk_drewN ?_ _ | refine blk_drew ?_ | refine blk_alloc ?_ _)); exact BK130.out) hb)
              have n2_ := Aside0.mk (below_step (by repeat (first | (with_reducible first | exact HB.out | apply below_alloc | apply pw_below_drewN | apply below_drew1 | refine below_set ?_ GE128.out | refine below_set ?_ GE130.out) | exact HB.out)) hb)
              clear BK128
              clear BK130
              clear HB
              have BK128 := n0_
              have BK130 := n1_
              have HB := n2_
              clear n0_ n1_ n2_
              (try clear hb)
              (try clear hb2)
              (try clear hk)
              (try clear hi)
              refine hK.out _ _ ⟨(blk_cell BK128.out 0).trans rfl, (blk_cell BK128.out 1).trans rfl, (blk_cell BK128.out 2).trans rfl, (blk_cell BK128.out 3).trans rfl, (blk_cell BK128.out 4).trans rfl, (blk_cell BK128.out 5).trans rfl, (blk_cell BK128.out 6).trans rfl, (blk_cell BK128.out 7).trans rfl, (blk_cell BK128.out 8).trans rfl, (blk_cell BK128.out 9).trans rfl, (blk_cell BK128.out 10).trans rfl, (blk_cell BK128.out 11).trans rfl, (blk_cell BK130.out 0).trans rfl, (blk_cell BK130.out 1).trans rfl, (blk_cell BK130.out 2).trans rfl, (blk_cell BK130.out 3).trans rfl, (blk_cell BK130.out 4).trans rfl, (blk_cell BK130.out 5).trans rfl, (blk_cell BK130.out 6).trans rfl, (blk_cell BK130.out 7).trans rfl, (blk_cell BK130.out 8).trans rfl, (blk_cell BK130.out 9).trans rfl, (blk_cell BK130.out 10).trans rfl, (blk_cell BK130.out 11).trans rfl, (blk_cell BK130.out 12).trans rfl, (blk_cell BK130.out 13).trans rfl⟩ (fun hHeld => ?_)
              clear hK K
              refine norm_ (a' := ?_) ?_ ?_
              rotate_left
              · show Act.put _ (some 17) _ = _
                simp only [Act.put, List.setIfInBounds_toArray, List.set_cons_zero, List.set_cons_succ, i64_w, i32_w]
                rfl
              refine pure_ (i := 3) (N := some 18) (v := ?_) (a' := ?_) #[true, true, true, true, false, false, false, false, false, false, false, false, false, false, false] rfl rfl (any_of HT_.out (by kernel_rfl)) (fun _ _ _ h => h) (Or.inl ⟨by rfl, ?_⟩) ?_ ?_
              rotate_left
              · intro w'
                go_simp
                with_reducible rfl
              rotate_left
              · simp only [Act.put, List.setIfInBounds_toArray, List.set_cons_zero, List.set_cons_succ, i64_w, i32_w]
                rfl
              refine pure_ (i := 4) (N := some 19) (v := undef) (a' := ?_) #[true, true, true, true, true, false, false, false, false, false, false, false, false, false, false] rfl rfl (any_of HT_.out (by kernel_rfl)) (fun _ _ _ h => h) (Or.inr ⟨by rfl, rfl⟩) ?_ ?_
              rotate_left
              · simp only [Act.put, List.setIfInBounds_toArray, List.set_cons_zero, List.set_cons_succ, i64_w, i32_w]
                rfl
              refine pure_ (i := 5) (N := some 20) (v := undef) (a' := ?_) #[true, true, true, true, true, true, false, false, false, false, false, false, false, false, false] rfl rfl (any_of HT_.out (by kernel_rfl)) (fun _ _ _ h => h) (Or.inr ⟨by rfl, rfl⟩) ?_ ?_
              rotate_left
              · simp only [Act.put, List.setIfInBounds_toArray, List.set_cons_zero, List.set_cons_succ, i64_w, i32_w]
                rfl
              refine pure_ (i := 6) (N := some 21) (v := undef) (a' := ?_) #[true, true, true, true, true, true, true, false, false, false, false, false, false, false, false] rfl rfl (any_of HT_.out (by kernel_rfl)) (fun _ _ _ h => h) (Or.inr ⟨by rfl, rfl⟩) ?_ ?_
              rotate_left
              · simp only [Act.put, List.setIfInBounds_toArray, List.set_cons_zero, List.set_cons_succ, i64_w, i32_w]
                rfl
              refine pure_ (i := 7) (N := some 22) (v := undef) (a' := ?_) #[true, true, true, true, true, true, true, true, false, false, false, false, false, false, false] rfl rfl (any_of HT_.out (by kernel_rfl)) (fun _ _ _ h => h) (Or.inr ⟨by rfl, rfl⟩) ?_ ?_
              rotate_left
              · simp only [Act.put, List.setIfInBounds_toArray, List.set_cons_zero, List.set_cons_succ, i64_w, i32_w]
                rfl
              refine pure_ (i := 8) (N := some 23) (v := undef) (a' := ?_) #[true, true, true, true, true, true, true, true, true, false, false, false, false, false, false] rfl rfl (any_of HT_.out (by kernel_rfl)) (fun _ _ _ h => h) (Or.inr ⟨by rfl, rfl⟩) ?_ ?_
              rotate_left
              · simp only [Act.put, List.setIfInBounds_toArray, List.set_cons_zero, List.set_cons_succ, i64_w, i32_w]
                rfl
              refine pure_ (i := 9) (N := some 24) (v := undef) (a' := ?_) #[true, true, true, true, true, true, true, true, true, true, false, false, false, false, false] rfl rfl (any_of HT_.out (by kernel_rfl)) (fun _ _ _ h => h) (Or.inr ⟨by rfl, rfl⟩) ?_ ?_
              rotate_left
              · simp only [Act.put, List.setIfInBounds_toArray, List.set_cons_zero, List.set_cons_succ, i64_w, i32_w]
                rfl
              refine pure_ (i := 10) (N := some 25) (v := undef) (a' := ?_) #[true, true, true, true, true, true, true, true, true, true, true, false, false, false, false] rfl rfl (any_of HT_.out (by kernel_rfl)) (fun _ _ _ h => h) (Or.inr ⟨by rfl, rfl⟩) ?_ ?_
              rotate_left
              · simp only [Act.put, List.setIfInBounds_toArray, List.set_cons_zero, List.set_cons_succ, i64_w, i32_w]
                rfl
              refine pure_ (i := 11) (N := some 26) (v := undef) (a' := ?_) #[true, true, true, true, true, true, true, true, true, true, true, true, false, false, false] rfl rfl (any_of HT_.out (by kernel_rfl)) (fun _ _ _ h => h) (Or.inr ⟨by rfl, rfl⟩) ?_ ?_
              rotate_left
              · simp only [Act.put, List.setIfInBounds_toArray, List.set_cons_zero, List.set_cons_succ, i64_w, i32_w]
                rfl
              refine pure_ (i := 12) (N := some 27) (v := undef) (a' := ?_) #[true, true, true, true, true, true, true, true, true, true, true, true, true, false, false] rfl rfl (any_of HT_.out (by kernel_rfl)) (fun _ _ _ h => h) (Or.inr ⟨by rfl, rfl⟩) ?_ ?_
              rotate_left
              · simp only [Act.put, List.setIfInBounds_toArray, List.set_cons_zero, List.set_cons_succ, i64_w, i32_w]
                rfl
              refine pure_ (i := 13) (N := some 28) (v := undef) (a' := ?_) #[true, true, true, true, true, true, true, true, true, true, true, true, true, true, false] rfl rfl (any_of HT_.out (by kernel_rfl)) (fun _ _ _ h => h) (Or.inr ⟨by rfl, rfl⟩) ?_ ?_
              rotate_left
              · simp only [Act.put, List.setIfInBounds_toArray, List.set_cons_zero, List.set_cons_succ, i64_w, i32_w]
                rfl
              refine pure_ (i := 14) (N := some 29) (v := ?_) (a' := ?_) #[true, true, true, true, true, true, true, true, true, true, true, true, true, true, true] rfl rfl (any_of HT_.out (by kernel_rfl)) (fun _ _ _ h => h) (Or.inl ⟨by rfl, ?_⟩) ?_ ?_
              rotate_left
              · intro w'
                go_simp
                with_reducible rfl
              rotate_left
              · simp only [Act.put, List.setIfInBounds_toArray, List.set_cons_zero, List.set_cons_succ, i64_w, i32_w]
                rfl
              refine done_ (done_of HT_.out (by kernel_rfl)) ?_
              try go_wp2
              go_roundg k1
              case measure => have := HK1.out; omega
              case rel => exact ⟨(x5_1), (wrap64 (x10_1 + 1)), (by first | rfl | (simp; done) | (simp [*]; done)), (by first | rfl | (simp; done) | (simp [*]; done)), H', ⟨by have := HK1.out; omega⟩, ⟨by (with_reducible repeat (first | refine blk_drewN ?_ _ | refine blk_drew ?_ | refine blk_alloc ?_ _)); exact BK128.out⟩, ⟨by repeat (first | (with_reducible first | exact HB.out | apply below_alloc | apply pw_below_drewN | apply below_drew1 | refine below_set ?_ GE128.out | refine below_set ?_ GE130.out) | exact HB.out)⟩⟩
          · rw [if_neg c6] at H
            exact absurd H (by simp)
        · rw [if_neg c5] at H
          exact absurd H (by simp)
      · rw [if_neg c4] at H
        have c4b0 : decide (x10_1 < (l1.length : Int)) = false := decide_eq_false c4
        clear c4
        obtain rfl := Option.some.inj H
        go_wp2
        go_ret
        exact ⟨by first | rfl | (simp [errW_none, errW_some] <;> rfl) | (simp [*, errW_none, errW_some] <;> rfl), by repeat (first | (with_reducible first | exact HB.out | apply below_alloc | apply pw_below_drewN | apply below_drew1 | refine below_set ?_ GE128.out) | exact HB.out)⟩

end Go.Proofs.Ytaiggeogiolbnaa.Q
