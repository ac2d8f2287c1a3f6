-- Laid by a program of this session out of the translation (over the print of the kit); Lean checks it.
import Derived.Test.YtaiggeogiolbnaaQ0
namespace Go.Proofs.Ytaiggeogiolbnaa.Q
open Go.RowKit Go.Proofs.YtaiggeogiolbnaaW.PrintWords Go.Proofs.YtaiggeogiolbnaaW.PrintLast Go.Proofs.YtaiggeogiolbnaaW.PrintMore
attribute [local go_sem] max2_int min2_int max_two min_two max_three min_three max_four min_four   -- for this text's walks alone
set_option linter.unusedVariables false
set_option linter.unusedSimpArgs false

/-! ### clepsydralaw15_odd: function 13 -/
def clepsydralaw15_odd.f (a0_0 : Int) (a0_1 : Int) (a0_2 : Int) (a0_3 : Int) (a0_4 : Int) (a0_5 : Int) (a0_6 : Int) (a0_7 : Int) (a0_8 : Int) (a0_9 : Int) (a0_10 : Int) (a0_11 : Int) : Option (Bool) := if a0_2 < 0 then (some true) else (some (decide (a0_2 > 16)))
set_option maxHeartbeats 8000000 in
set_option maxRecDepth 100000 in
theorem clepsydralaw15_odd.calls (a0_0 : Int) (a0_1 : Int) (a0_2 : Int) (a0_3 : Int) (a0_4 : Int) (a0_5 : Int) (a0_6 : Int) (a0_7 : Int) (a0_8 : Int) (a0_9 : Int) (a0_10 : Int) (a0_11 : Int) (r : Bool) (w : World) (h : clepsydralaw15_odd.f a0_0 a0_1 a0_2 a0_3 a0_4 a0_5 a0_6 a0_7 a0_8 a0_9 a0_10 a0_11 = some r) :
    Calls Try.prog 13 #[.agg #[.int .i64 a0_0, .int .i64 a0_1, .int .i64 a0_2, .int .i64 a0_3, .int .i64 a0_4, .int .i64 a0_5, .int .i64 a0_6, .int .i64 a0_7, .int .i64 a0_8, .int .i64 a0_9, .int .i64 a0_10, .int .i64 a0_11]] w fun e w' => e = .returned (.bool r) ∧ Below w.heap.size w w' := by
  have hu23 := Try.underlying23
  have HB := Aside0.mk (Below.refl w.heap.size w)
  have H : (if a0_2 < 0 then (some true) else (some (decide (a0_2 > 16)))) = some r := h
  clear h
  by_cases c2 : a0_2 < 0
  · rw [if_pos c2] at H
    have c2b0 : decide (a0_2 < 0) = true := decide_eq_true c2
    clear c2
    obtain rfl := Option.some.inj H
    go_enter Try.func13, Try.ntmps13
    go_wp2_with (first | ((with_reducible refine gate_dst (N := 1) rfl ?_); refine box_event ?hg (N := 1) ?hd (cs := #[.int .i64 a0_0, .int .i64 a0_1, .int .i64 a0_2, .int .i64 a0_3, .int .i64 a0_4, .int .i64 a0_5, .int .i64 a0_6, .int .i64 a0_7, .int .i64 a0_8, .int .i64 a0_9, .int .i64 a0_10, .int .i64 a0_11]) (t := 23) ?hr ?_; (case hd => rfl); (case hg => rfl); (case hr => first | (go_simp; done) | (go_simp; rfl)); intro gb121 hg w3 hbox hb; have n0_ := Aside0.mk (below_step (by repeat (first | (with_reducible first | exact HB.out | apply below_alloc | apply pw_below_drewN | apply below_drew1) | exact HB.out)) hb); have n1_ := Aside0.mk (hbox); have n2_ := Aside0.mk ((by rw [hg]; exact (below_size (by repeat (first | (with_reducible first | exact HB.out | apply below_alloc | apply pw_below_drewN | apply below_drew1) | exact HB.out))) : w.heap.size ≤ gb121)); have n3_ := Aside0.mk ((by rw [hg]; exact (below_size (by repeat (first | (with_reducible first | exact HB.out | apply below_alloc | apply pw_below_drewN | apply below_drew1) | exact HB.out))) : w.heap.size ≤ gb121)); clear HB; have HB := n0_; have BK121 := n1_; have GW121 := n2_; have GE121 := n3_; clear n0_ n1_ n2_ n3_; clear hb hbox hg; have hcz4_0 : w3.cell? ⟨gb121, 0, none⟩ = some (.int .i64 a0_0) := (blk_cell BK121.out 0).trans rfl; have hcz4_1 : w3.cell? ⟨gb121, 1, none⟩ = some (.int .i64 a0_1) := (blk_cell BK121.out 1).trans rfl; have hcz4_2 : w3.cell? ⟨gb121, 2, none⟩ = some (.int .i64 a0_2) := (blk_cell BK121.out 2).trans rfl; have hcz4_3 : w3.cell? ⟨gb121, 3, none⟩ = some (.int .i64 a0_3) := (blk_cell BK121.out 3).trans rfl; have hcz4_4 : w3.cell? ⟨gb121, 4, none⟩ = some (.int .i64 a0_4) := (blk_cell BK121.out 4).trans rfl; have hcz4_5 : w3.cell? ⟨gb121, 5, none⟩ = some (.int .i64 a0_5) := (blk_cell BK121.out 5).trans rfl; have hcz4_6 : w3.cell? ⟨gb121, 6, none⟩ = some (.int .i64 a0_6) := (blk_cell BK121.out 6).trans rfl; have hcz4_7 : w3.cell? ⟨gb121, 7, none⟩ = some (.int .i64 a0_7) := (blk_cell BK121.out 7).trans rfl; have hcz4_8 : w3.cell? ⟨gb121, 8, none⟩ = some (.int .i64 a0_8) := (blk_cell BK121.out 8).trans rfl; have hcz4_9 : w3.cell? ⟨gb121, 9, none⟩ = some (.int .i64 a0_9) := (blk_cell BK121.out 9).trans rfl; have hcz4_10 : w3.cell? ⟨gb121, 10, none⟩ = some (.int .i64 a0_10) := (blk_cell BK121.out 10).trans rfl; have hcz4_11 : w3.cell? ⟨gb121, 11, none⟩ = some (.int .i64 a0_11) := (blk_cell BK121.out 11).trans rfl; have hfz4_0 := blk_frozen BK121.out 0; have hfz4_1 := blk_frozen BK121.out 1; have hfz4_2 := blk_frozen BK121.out 2; have hfz4_3 := blk_frozen BK121.out 3; have hfz4_4 := blk_frozen BK121.out 4; have hfz4_5 := blk_frozen BK121.out 5; have hfz4_6 := blk_frozen BK121.out 6; have hfz4_7 := blk_frozen BK121.out 7; have hfz4_8 := blk_frozen BK121.out 8; have hfz4_9 := blk_frozen BK121.out 9; have hfz4_10 := blk_frozen BK121.out 10; have hfz4_11 := blk_frozen BK121.out 11))
    go_ret
    exact ⟨by first | rfl | (simp [errW_none, errW_some] <;> rfl) | (simp [*, errW_none, errW_some] <;> rfl), by repeat (first | (with_reducible first | exact HB.out | apply below_alloc | apply pw_below_drewN | apply below_drew1 | refine below_set ?_ GE121.out) | exact HB.out)⟩
  · rw [if_neg c2] at H
    have c2b0 : decide (a0_2 < 0) = false := decide_eq_false c2
    clear c2
    obtain rfl := Option.some.inj H
    go_enter Try.func13, Try.ntmps13
    go_wp2_with (first | ((with_reducible refine gate_dst (N := 1) rfl ?_); refine box_event ?hg (N := 1) ?hd (cs := #[.int .i64 a0_0, .int .i64 a0_1, .int .i64 a0_2, .int .i64 a0_3, .int .i64 a0_4, .int .i64 a0_5, .int .i64 a0_6, .int .i64 a0_7, .int .i64 a0_8, .int .i64 a0_9, .int .i64 a0_10, .int .i64 a0_11]) (t := 23) ?hr ?_; (case hd => rfl); (case hg => rfl); (case hr => first | (go_simp; done) | (go_simp; rfl)); intro gb121 hg w5 hbox hb; have n0_ := Aside0.mk (below_step (by repeat (first | (with_reducible first | exact HB.out | apply below_alloc | apply pw_below_drewN | apply below_drew1) | exact HB.out)) hb); have n1_ := Aside0.mk (hbox); have n2_ := Aside0.mk ((by rw [hg]; exact (below_size (by repeat (first | (with_reducible first | exact HB.out | apply below_alloc | apply pw_below_drewN | apply below_drew1) | exact HB.out))) : w.heap.size ≤ gb121)); have n3_ := Aside0.mk ((by rw [hg]; exact (below_size (by repeat (first | (with_reducible first | exact HB.out | apply below_alloc | apply pw_below_drewN | apply below_drew1) | exact HB.out))) : w.heap.size ≤ gb121)); clear HB; have HB := n0_; have BK121 := n1_; have GW121 := n2_; have GE121 := n3_; clear n0_ n1_ n2_ n3_; clear hb hbox hg; have hcz6_0 : w5.cell? ⟨gb121, 0, none⟩ = some (.int .i64 a0_0) := (blk_cell BK121.out 0).trans rfl; have hcz6_1 : w5.cell? ⟨gb121, 1, none⟩ = some (.int .i64 a0_1) := (blk_cell BK121.out 1).trans rfl; have hcz6_2 : w5.cell? ⟨gb121, 2, none⟩ = some (.int .i64 a0_2) := (blk_cell BK121.out 2).trans rfl; have hcz6_3 : w5.cell? ⟨gb121, 3, none⟩ = some (.int .i64 a0_3) := (blk_cell BK121.out 3).trans rfl; have hcz6_4 : w5.cell? ⟨gb121, 4, none⟩ = some (.int .i64 a0_4) := (blk_cell BK121.out 4).trans rfl; have hcz6_5 : w5.cell? ⟨gb121, 5, none⟩ = some (.int .i64 a0_5) := (blk_cell BK121.out 5).trans rfl; have hcz6_6 : w5.cell? ⟨gb121, 6, none⟩ = some (.int .i64 a0_6) := (blk_cell BK121.out 6).trans rfl; have hcz6_7 : w5.cell? ⟨gb121, 7, none⟩ = some (.int .i64 a0_7) := (blk_cell BK121.out 7).trans rfl; have hcz6_8 : w5.cell? ⟨gb121, 8, none⟩ = some (.int .i64 a0_8) := (blk_cell BK121.out 8).trans rfl; have hcz6_9 : w5.cell? ⟨gb121, 9, none⟩ = some (.int .i64 a0_9) := (blk_cell BK121.out 9).trans rfl; have hcz6_10 : w5.cell? ⟨gb121, 10, none⟩ = some (.int .i64 a0_10) := (blk_cell BK121.out 10).trans rfl; have hcz6_11 : w5.cell? ⟨gb121, 11, none⟩ = some (.int .i64 a0_11) := (blk_cell BK121.out 11).trans rfl; have hfz6_0 := blk_frozen BK121.out 0; have hfz6_1 := blk_frozen BK121.out 1; have hfz6_2 := blk_frozen BK121.out 2; have hfz6_3 := blk_frozen BK121.out 3; have hfz6_4 := blk_frozen BK121.out 4; have hfz6_5 := blk_frozen BK121.out 5; have hfz6_6 := blk_frozen BK121.out 6; have hfz6_7 := blk_frozen BK121.out 7; have hfz6_8 := blk_frozen BK121.out 8; have hfz6_9 := blk_frozen BK121.out 9; have hfz6_10 := blk_frozen BK121.out 10; have hfz6_11 := blk_frozen BK121.out 11))
    go_ret
    exact ⟨by first | rfl | (simp [errW_none, errW_some] <;> rfl) | (simp [*, errW_none, errW_some] <;> rfl), by repeat (first | (with_reducible first | exact HB.out | apply below_alloc | apply pw_below_drewN | apply below_drew1 | refine below_set ?_ GE121.out) | exact HB.out)⟩

/-! ### clepsydraref15_Next: function 15 -/
mutual
def clepsydraref15_Next.l0 : Nat → List Int → Int → Int → Int → Int → Int → Int → Int → Int → Int → Int → Int → Int → Int → Option (Int)
  | 0, _, _, _, _, _, _, _, _, _, _, _, _, _, _ => none
  | k + 1, x1, x5, x123000, x123001, x123002, x123003, x123004, x123005, x123006, x123007, x123008, x123009, x123010, x123011 => if x5 < x123002 then (clepsydraref15_Next.l1 k x1 x5 x1 (x1.length : Int) 0 x123000 x123001 x123002 x123003 x123004 x123005 x123006 x123007 x123008 x123009 x123010 x123011) else (some (wrap64 (x123002 + 1)))
def clepsydraref15_Next.l1 : Nat → List Int → Int → List Int → Int → Int → Int → Int → Int → Int → Int → Int → Int → Int → Int → Int → Int → Int → Option (Int)
  | 0, _, _, _, _, _, _, _, _, _, _, _, _, _, _, _, _, _ => none
  | k + 1, x1, x5, x14, x15, x16, x123000, x123001, x123002, x123003, x123004, x123005, x123006, x123007, x123008, x123009, x123010, x123011 => if x16 < x15 then (if 0 ≤ x16 then (if x16 < (x14.length : Int) then (if (rd x14 x16) = x5 then (some (wrap64 (x5 + 1))) else (clepsydraref15_Next.l1 k x1 x5 x14 x15 (wrap64 (x16 + 1)) x123000 x123001 x123002 x123003 x123004 x123005 x123006 x123007 x123008 x123009 x123010 x123011)) else (none)) else (none)) else (clepsydraref15_Next.l0 k x1 (wrap64 (x5 + 1)) x123000 x123001 x123002 x123003 x123004 x123005 x123006 x123007 x123008 x123009 x123010 x123011)
end
def clepsydraref15_Next.f (k : Nat) (a0_0 : Int) (a0_1 : Int) (a0_2 : Int) (a0_3 : Int) (a0_4 : Int) (a0_5 : Int) (a0_6 : Int) (a0_7 : Int) (a0_8 : Int) (a0_9 : Int) (a0_10 : Int) (a0_11 : Int) (l1 : List Int) : Option (Int) := clepsydraref15_Next.l0 k l1 0 a0_0 a0_1 a0_2 a0_3 a0_4 a0_5 a0_6 a0_7 a0_8 a0_9 a0_10 a0_11
theorem clepsydraref15_Next.mono_l : ∀ k, (∀ y0 y1 y2 y3 y4 y5 y6 y7 y8 y9 y10 y11 y12 y13, LeO (clepsydraref15_Next.l0 k y0 y1 y2 y3 y4 y5 y6 y7 y8 y9 y10 y11 y12 y13) (clepsydraref15_Next.l0 (k + 1) y0 y1 y2 y3 y4 y5 y6 y7 y8 y9 y10 y11 y12 y13)) ∧ (∀ y0 y1 y2 y3 y4 y5 y6 y7 y8 y9 y10 y11 y12 y13 y14 y15 y16, LeO (clepsydraref15_Next.l1 k y0 y1 y2 y3 y4 y5 y6 y7 y8 y9 y10 y11 y12 y13 y14 y15 y16) (clepsydraref15_Next.l1 (k + 1) y0 y1 y2 y3 y4 y5 y6 y7 y8 y9 y10 y11 y12 y13 y14 y15 y16))
  | 0 => ⟨fun _ _ _ _ _ _ _ _ _ _ _ _ _ _ r h => by simp [clepsydraref15_Next.l0] at h, fun _ _ _ _ _ _ _ _ _ _ _ _ _ _ _ _ _ r h => by simp [clepsydraref15_Next.l1] at h⟩
  | k + 1 => by
    obtain ⟨ih0, ih1⟩ := clepsydraref15_Next.mono_l k
    refine ⟨?_, ?_⟩
    · intro y0 y1 y2 y3 y4 y5 y6 y7 y8 y9 y10 y11 y12 y13
      unfold clepsydraref15_Next.l0
      repeat' first
      | (with_reducible exact ih0 _ _ _ _ _ _ _ _ _ _ _ _ _ _)
      | (with_reducible exact ih1 _ _ _ _ _ _ _ _ _ _ _ _ _ _ _ _ _)
      | (with_reducible exact LeO.refl _)
      | (with_reducible exact LeO.none _)
      | (with_reducible refine LeO.ite ?_ ?_)
      | (with_reducible refine LeO.bind ?_ (fun _ => ?_))
      | exact ih0 _ _ _ _ _ _ _ _ _ _ _ _ _ _
      | exact ih1 _ _ _ _ _ _ _ _ _ _ _ _ _ _ _ _ _
      | exact LeO.none _
      | refine LeO.ite ?_ ?_
      | refine LeO.bind ?_ (fun _ => ?_)
    · intro y0 y1 y2 y3 y4 y5 y6 y7 y8 y9 y10 y11 y12 y13 y14 y15 y16
      unfold clepsydraref15_Next.l1
      repeat' first
      | (with_reducible exact ih0 _ _ _ _ _ _ _ _ _ _ _ _ _ _)
      | (with_reducible exact ih1 _ _ _ _ _ _ _ _ _ _ _ _ _ _ _ _ _)
      | (with_reducible exact LeO.refl _)
      | (with_reducible exact LeO.none _)
      | (with_reducible refine LeO.ite ?_ ?_)
      | (with_reducible refine LeO.bind ?_ (fun _ => ?_))
      | exact ih0 _ _ _ _ _ _ _ _ _ _ _ _ _ _
      | exact ih1 _ _ _ _ _ _ _ _ _ _ _ _ _ _ _ _ _
      | exact LeO.none _
      | refine LeO.ite ?_ ?_
      | refine LeO.bind ?_ (fun _ => ?_)
theorem clepsydraref15_Next.mono : ∀ a0 a1 a2 a3 a4 a5 a6 a7 a8 a9 a10 a11 a12 k, LeO (clepsydraref15_Next.f k a0 a1 a2 a3 a4 a5 a6 a7 a8 a9 a10 a11 a12) (clepsydraref15_Next.f (k + 1) a0 a1 a2 a3 a4 a5 a6 a7 a8 a9 a10 a11 a12) := by
  intro a0 a1 a2 a3 a4 a5 a6 a7 a8 a9 a10 a11 a12 k
  obtain ⟨ih0, ih1⟩ := clepsydraref15_Next.mono_l k
  unfold clepsydraref15_Next.f
  repeat' first
      | (with_reducible exact ih0 _ _ _ _ _ _ _ _ _ _ _ _ _ _)
      | (with_reducible exact ih1 _ _ _ _ _ _ _ _ _ _ _ _ _ _ _ _ _)
      | (with_reducible exact LeO.refl _)
      | (with_reducible exact LeO.none _)
      | (with_reducible refine LeO.ite ?_ ?_)
      | (with_reducible refine LeO.bind ?_ (fun _ => ?_))
      | exact ih0 _ _ _ _ _ _ _ _ _ _ _ _ _ _
      | exact ih1 _ _ _ _ _ _ _ _ _ _ _ _ _ _ _ _ _
      | exact LeO.none _
      | refine LeO.ite ?_ ?_
      | refine LeO.bind ?_ (fun _ => ?_)
set_option maxHeartbeats 8000000 in
set_option maxRecDepth 100000 in
theorem clepsydraref15_Next.calls (k : Nat) (a0_0 : Int) (a0_1 : Int) (a0_2 : Int) (a0_3 : Int) (a0_4 : Int) (a0_5 : Int) (a0_6 : Int) (a0_7 : Int) (a0_8 : Int) (a0_9 : Int) (a0_10 : Int) (a0_11 : Int) (A1 : Option Addr) (c1 : Nat) (l1 : List Int) (r : Int) (w : World) (hr1 : Kd.C (Kd.int .i64) w A1 l1.length l1) (hc1 : l1.length ≤ c1) (h : clepsydraref15_Next.f k a0_0 a0_1 a0_2 a0_3 a0_4 a0_5 a0_6 a0_7 a0_8 a0_9 a0_10 a0_11 l1 = some r) :
    Calls Try.prog 15 #[.agg #[.int .i64 a0_0, .int .i64 a0_1, .int .i64 a0_2, .int .i64 a0_3, .int .i64 a0_4, .int .i64 a0_5, .int .i64 a0_6, .int .i64 a0_7, .int .i64 a0_8, .int .i64 a0_9, .int .i64 a0_10, .int .i64 a0_11], .slice A1 l1.length c1] w fun e w' => e = .returned (.int .i64 r) ∧ Below w.heap.size w w' := by
  have hu23 := Try.underlying23
  have HR1 := Aside0.mk hr1
  have HC1 := Aside0.mk hc1
  clear hr1 hc1
  have HB := Aside0.mk (Below.refl w.heap.size w)
  have H : (clepsydraref15_Next.l0 k l1 0 a0_0 a0_1 a0_2 a0_3 a0_4 a0_5 a0_6 a0_7 a0_8 a0_9 a0_10 a0_11) = some r := h
  clear h
  have H' := Aside0.mk H
  clear H
  go_enter Try.func15, Try.ntmps15
  go_wp2_with (first | ((with_reducible refine gate_dst (N := 2) rfl ?_); refine box_event ?hg (N := 2) ?hd (cs := #[.int .i64 a0_0, .int .i64 a0_1, .int .i64 a0_2, .int .i64 a0_3, .int .i64 a0_4, .int .i64 a0_5, .int .i64 a0_6, .int .i64 a0_7, .int .i64 a0_8, .int .i64 a0_9, .int .i64 a0_10, .int .i64 a0_11]) (t := 23) ?hr ?_; (case hd => rfl); (case hg => rfl); (case hr => first | (go_simp; done) | (go_simp; rfl)); intro gb122 hg w3 hbox hb; have n0_ := Aside0.mk (below_step (by repeat (first | (with_reducible first | exact HB.out | apply below_alloc | apply pw_below_drewN | apply below_drew1) | exact HB.out)) hb); have n1_ := Aside0.mk (hbox); have n2_ := Aside0.mk ((by rw [hg]; exact (below_size (by repeat (first | (with_reducible first | exact HB.out | apply below_alloc | apply pw_below_drewN | apply below_drew1) | exact HB.out))) : w.heap.size ≤ gb122)); have n3_ := Aside0.mk ((by rw [hg]; exact (below_size (by repeat (first | (with_reducible first | exact HB.out | apply below_alloc | apply pw_below_drewN | apply below_drew1) | exact HB.out))) : w.heap.size ≤ gb122)); clear HB; have HB := n0_; have BK122 := n1_; have GW122 := n2_; have GE122 := n3_; clear n0_ n1_ n2_ n3_; clear hb hbox hg))
  go_loopg [5] k (fun kq v5 w' => ∃ (x5_1 : Int), v5 = .int .i64 x5_1 ∧ Aside0 (clepsydraref15_Next.l0 kq l1 x5_1 a0_0 a0_1 a0_2 a0_3 a0_4 a0_5 a0_6 a0_7 a0_8 a0_9 a0_10 a0_11 = some r) ∧ Aside0 (kq ≤ k) ∧ Aside0 (w'.heap[gb122]? = some (.cells #[.int .i64 a0_0, .int .i64 a0_1, .int .i64 a0_2, .int .i64 a0_3, .int .i64 a0_4, .int .i64 a0_5, .int .i64 a0_6, .int .i64 a0_7, .int .i64 a0_8, .int .i64 a0_9, .int .i64 a0_10, .int .i64 a0_11] 23 (0, 0))) ∧ Aside0 (Below w.heap.size w w'))
  case atStart => exact ⟨(0), (by first | rfl | (simp; done) | (simp [*]; done)), H', ⟨Nat.le_refl _⟩, ⟨by (with_reducible repeat (first | refine blk_drewN ?_ _ | refine blk_drew ?_ | refine blk_alloc ?_ _)); exact BK122.out⟩, ⟨by repeat (first | (with_reducible first | exact HB.out | apply below_alloc | apply pw_below_drewN | apply below_drew1 | refine below_set ?_ GE122.out) | exact HB.out)⟩⟩
  case round =>
    clear H'
    try clear c1
    try clear p2
    obtain ⟨x5_1, rfl, HA, HK1, BK122, HB⟩ := hrel
    cases gk with
    | zero => exact absurd HA.out (by simp [clepsydraref15_Next.l0])
    | succ k1 =>
      have H := HA.out
      clear HA
      simp only [clepsydraref15_Next.l0] at H
      by_cases c4 : x5_1 < a0_2
      · rw [if_pos c4] at H
        have c4b0 : decide (x5_1 < a0_2) = true := decide_eq_true c4
        clear c4
        have H' := Aside0.mk H
        clear H
        have hcz5_0 : wr.cell? ⟨gb122, 0, none⟩ = some (.int .i64 a0_0) := (blk_cell BK122.out 0).trans rfl
        have hcz5_1 : wr.cell? ⟨gb122, 1, none⟩ = some (.int .i64 a0_1) := (blk_cell BK122.out 1).trans rfl
        have hcz5_2 : wr.cell? ⟨gb122, 2, none⟩ = some (.int .i64 a0_2) := (blk_cell BK122.out 2).trans rfl
        have hcz5_3 : wr.cell? ⟨gb122, 3, none⟩ = some (.int .i64 a0_3) := (blk_cell BK122.out 3).trans rfl
        have hcz5_4 : wr.cell? ⟨gb122, 4, none⟩ = some (.int .i64 a0_4) := (blk_cell BK122.out 4).trans rfl
        have hcz5_5 : wr.cell? ⟨gb122, 5, none⟩ = some (.int .i64 a0_5) := (blk_cell BK122.out 5).trans rfl
        have hcz5_6 : wr.cell? ⟨gb122, 6, none⟩ = some (.int .i64 a0_6) := (blk_cell BK122.out 6).trans rfl
        have hcz5_7 : wr.cell? ⟨gb122, 7, none⟩ = some (.int .i64 a0_7) := (blk_cell BK122.out 7).trans rfl
        have hcz5_8 : wr.cell? ⟨gb122, 8, none⟩ = some (.int .i64 a0_8) := (blk_cell BK122.out 8).trans rfl
        have hcz5_9 : wr.cell? ⟨gb122, 9, none⟩ = some (.int .i64 a0_9) := (blk_cell BK122.out 9).trans rfl
        have hcz5_10 : wr.cell? ⟨gb122, 10, none⟩ = some (.int .i64 a0_10) := (blk_cell BK122.out 10).trans rfl
        have hcz5_11 : wr.cell? ⟨gb122, 11, none⟩ = some (.int .i64 a0_11) := (blk_cell BK122.out 11).trans rfl
        have hfz5_0 := blk_frozen BK122.out 0
        have hfz5_1 := blk_frozen BK122.out 1
        have hfz5_2 := blk_frozen BK122.out 2
        have hfz5_3 := blk_frozen BK122.out 3
        have hfz5_4 := blk_frozen BK122.out 4
        have hfz5_5 := blk_frozen BK122.out 5
        have hfz5_6 := blk_frozen BK122.out 6
        have hfz5_7 := blk_frozen BK122.out 7
        have hfz5_8 := blk_frozen BK122.out 8
        have hfz5_9 := blk_frozen BK122.out 9
        have hfz5_10 := blk_frozen BK122.out 10
        have hfz5_11 := blk_frozen BK122.out 11
        go_wp2
        go_loopg [16] k1 (fun kq v16 w' => ∃ (x16_2 : Int), v16 = .int .i64 x16_2 ∧ Aside0 (clepsydraref15_Next.l1 kq l1 x5_1 l1 (l1.length : Int) x16_2 a0_0 a0_1 a0_2 a0_3 a0_4 a0_5 a0_6 a0_7 a0_8 a0_9 a0_10 a0_11 = some r) ∧ Aside0 (kq ≤ k1) ∧ Aside0 (w'.heap[gb122]? = some (.cells #[.int .i64 a0_0, .int .i64 a0_1, .int .i64 a0_2, .int .i64 a0_3, .int .i64 a0_4, .int .i64 a0_5, .int .i64 a0_6, .int .i64 a0_7, .int .i64 a0_8, .int .i64 a0_9, .int .i64 a0_10, .int .i64 a0_11] 23 (0, 0))) ∧ Aside0 (Below w.heap.size w w'))
        case atStart => exact ⟨(0), (by first | rfl | (simp; done) | (simp [*]; done)), H', ⟨Nat.le_refl _⟩, ⟨by (with_reducible repeat (first | refine blk_drewN ?_ _ | refine blk_drew ?_ | refine blk_alloc ?_ _)); exact BK122.out⟩, ⟨by repeat (first | (with_reducible first | exact HB.out | apply below_alloc | apply pw_below_drewN | apply below_drew1 | refine below_set ?_ GE122.out) | exact HB.out)⟩⟩
        case round =>
          clear H'
          try clear c1
          try clear p2
          try clear c4
          try clear c4b0
          try clear hcz5_0
          try clear hcz5_1
          try clear hcz5_10
          try clear hcz5_11
          try clear hcz5_2
          try clear hcz5_3
          try clear hcz5_4
          try clear hcz5_5
          try clear hcz5_6
          try clear hcz5_7
          try clear hcz5_8
          try clear hcz5_9
          try clear hfz5_0
          try clear hfz5_1
          try clear hfz5_10
          try clear hfz5_11
          try clear hfz5_2
          try clear hfz5_3
          try clear hfz5_4
          try clear hfz5_5
          try clear hfz5_6
          try clear hfz5_7
          try clear hfz5_8
          try clear hfz5_9
          try clear p2
          obtain ⟨x16_2, rfl, HA, HK2, BK122, HB⟩ := hrel
          cases gk with
          | zero => exact absurd HA.out (by simp [clepsydraref15_Next.l1])
          | succ k2 =>
            have H := HA.out
            clear HA
            simp only [clepsydraref15_Next.l1] at H
            by_cases c6 : x16_2 < (l1.length : Int)
            · rw [if_pos c6] at H
              have c6b0 : decide (x16_2 < (l1.length : Int)) = true := decide_eq_true c6
              clear c6
              by_cases c7 : 0 ≤ x16_2
              · rw [if_pos c7] at H
                have c7b0 : decide (0 ≤ x16_2) = true := decide_eq_true c7
                clear c7
                by_cases c8 : x16_2 < (l1.length : Int)
                · rw [if_pos c8] at H
                  have c8b0 : decide (x16_2 < (l1.length : Int)) = true := decide_eq_true c8
                  clear c8
                  by_cases c9 : (rd l1 x16_2) = x5_1
                  · rw [if_pos c9] at H
                    have c9b0 : ((rd l1 x16_2) == x5_1) = true := beq_iff_eq.mpr c9
                    have c9b1 : ((rd l1 x16_2) != x5_1) = false := bne_eq_false_iff_eq.mpr c9
                    clear c9
                    obtain rfl := Option.some.inj H
                    have p123 : 0 ≤ (x16_2 : Int) := of_decide_eq_true (by first | (with_reducible assumption) | assumption)
                    have q123 : x16_2 < (l1.length : Int) := of_decide_eq_true (by first | (with_reducible assumption) | assumption)
                    obtain ⟨ad123, e123, hx123_0⟩ := Kd.at_int HR1.out x16_2 p123 q123
                    cases e123
                    replace hx123_0 := (HB.out.cell (World.block_lt_of_cell? w _ hx123_0)).trans hx123_0
                    replace p123 := eq_true p123
                    replace q123 := eq_true q123
                    go_wp2
                    go_ret
                    exact ⟨by first | rfl | (simp [errW_none, errW_some] <;> rfl) | (simp [*, errW_none, errW_some] <;> rfl), by repeat (first | (with_reducible first | exact HB.out | apply below_alloc | apply pw_below_drewN | apply below_drew1 | refine below_set ?_ GE122.out) | exact HB.out)⟩
                  · rw [if_neg c9] at H
                    have c9b0 : ((rd l1 x16_2) == x5_1) = false := beq_eq_false_iff_ne.mpr c9
                    have c9b1 : ((rd l1 x16_2) != x5_1) = true := bne_iff_ne.mpr c9
                    have H' := Aside0.mk H
                    clear H
                    have p123 : 0 ≤ (x16_2 : Int) := of_decide_eq_true (by first | (with_reducible assumption) | assumption)
                    have q123 : x16_2 < (l1.length : Int) := of_decide_eq_true (by first | (with_reducible assumption) | assumption)
                    obtain ⟨ad123, e123, hx123_0⟩ := Kd.at_int HR1.out x16_2 p123 q123
                    cases e123
                    replace hx123_0 := (HB.out.cell (World.block_lt_of_cell? w _ hx123_0)).trans hx123_0
                    replace p123 := eq_true p123
                    replace q123 := eq_true q123
                    go_wp2
                    go_roundg k2
                    case measure => have := HK1.out; have := HK2.out; omega
                    case rel => exact ⟨(wrap64 (x16_2 + 1)), (by first | rfl | (simp; done) | (simp [*]; done)), H', ⟨by have := HK1.out; have := HK2.out; omega⟩, ⟨by (with_reducible repeat (first | refine blk_drewN ?_ _ | refine blk_drew ?_ | refine blk_alloc ?_ _)); exact BK122.out⟩, ⟨by repeat (first | (with_reducible first | exact HB.out | apply below_alloc | apply pw_below_drewN | apply below_drew1 | refine below_set ?_ GE122.out) | exact HB.out)⟩⟩
                · rw [if_neg c8] at H
                  exact absurd H (by simp)
              · rw [if_neg c7] at H
                exact absurd H (by simp)
            · rw [if_neg c6] at H
              have c6b0 : decide (x16_2 < (l1.length : Int)) = false := decide_eq_false c6
              clear c6
              have H' := Aside0.mk H
              clear H
              go_wp2
              go_roundg k2
              case measure => have := HK1.out; have := HK2.out; omega
              case rel => exact ⟨(wrap64 (x5_1 + 1)), (by first | rfl | (simp; done) | (simp [*]; done)), H', ⟨by have := HK1.out; have := HK2.out; omega⟩, ⟨by (with_reducible repeat (first | refine blk_drewN ?_ _ | refine blk_drew ?_ | refine blk_alloc ?_ _)); exact BK122.out⟩, ⟨by repeat (first | (with_reducible first | exact HB.out | apply below_alloc | apply pw_below_drewN | apply below_drew1 | refine below_set ?_ GE122.out) | exact HB.out)⟩⟩
      · rw [if_neg c4] at H
        have c4b0 : decide (x5_1 < a0_2) = false := decide_eq_false c4
        clear c4
        obtain rfl := Option.some.inj H
        have hcz10_0 : wr.cell? ⟨gb122, 0, none⟩ = some (.int .i64 a0_0) := (blk_cell BK122.out 0).trans rfl
        have hcz10_1 : wr.cell? ⟨gb122, 1, none⟩ = some (.int .i64 a0_1) := (blk_cell BK122.out 1).trans rfl
        have hcz10_2 : wr.cell? ⟨gb122, 2, none⟩ = some (.int .i64 a0_2) := (blk_cell BK122.out 2).trans rfl
        have hcz10_3 : wr.cell? ⟨gb122, 3, none⟩ = some (.int .i64 a0_3) := (blk_cell BK122.out 3).trans rfl
        have hcz10_4 : wr.cell? ⟨gb122, 4, none⟩ = some (.int .i64 a0_4) := (blk_cell BK122.out 4).trans rfl
        have hcz10_5 : wr.cell? ⟨gb122, 5, none⟩ = some (.int .i64 a0_5) := (blk_cell BK122.out 5).trans rfl
        have hcz10_6 : wr.cell? ⟨gb122, 6, none⟩ = some (.int .i64 a0_6) := (blk_cell BK122.out 6).trans rfl
        have hcz10_7 : wr.cell? ⟨gb122, 7, none⟩ = some (.int .i64 a0_7) := (blk_cell BK122.out 7).trans rfl
        have hcz10_8 : wr.cell? ⟨gb122, 8, none⟩ = some (.int .i64 a0_8) := (blk_cell BK122.out 8).trans rfl
        have hcz10_9 : wr.cell? ⟨gb122, 9, none⟩ = some (.int .i64 a0_9) := (blk_cell BK122.out 9).trans rfl
        have hcz10_10 : wr.cell? ⟨gb122, 10, none⟩ = some (.int .i64 a0_10) := (blk_cell BK122.out 10).trans rfl
        have hcz10_11 : wr.cell? ⟨gb122, 11, none⟩ = some (.int .i64 a0_11) := (blk_cell BK122.out 11).trans rfl
        have hfz10_0 := blk_frozen BK122.out 0
        have hfz10_1 := blk_frozen BK122.out 1
        have hfz10_2 := blk_frozen BK122.out 2
        have hfz10_3 := blk_frozen BK122.out 3
        have hfz10_4 := blk_frozen BK122.out 4
        have hfz10_5 := blk_frozen BK122.out 5
        have hfz10_6 := blk_frozen BK122.out 6
        have hfz10_7 := blk_frozen BK122.out 7
        have hfz10_8 := blk_frozen BK122.out 8
        have hfz10_9 := blk_frozen BK122.out 9
        have hfz10_10 := blk_frozen BK122.out 10
        have hfz10_11 := blk_frozen BK122.out 11
        go_wp2
        go_ret
        exact ⟨by first | rfl | (simp [errW_none, errW_some] <;> rfl) | (simp [*, errW_none, errW_some] <;> rfl), by repeat (first | (with_reducible first | exact HB.out | apply below_alloc | apply pw_below_drewN | apply below_drew1 | refine below_set ?_ GE122.out) | exact HB.out)⟩

end Go.Proofs.Ytaiggeogiolbnaa.Q
