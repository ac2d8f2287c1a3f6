-- Laid by a program of this session out of the translation (over the print of the kit); Lean checks it.
import Derived.Test.YtaiggeogiolbnaaR0
import Derived.Test.YtaiggeogiolbnaaR11
namespace Go.Proofs.Ytaiggeogiolbnaa.R
open Go.RowKit Go.Proofs.YtaiggeogiolbnaaW.PrintWords Go.Proofs.YtaiggeogiolbnaaW.PrintLast Go.Proofs.YtaiggeogiolbnaaW.PrintMore
attribute [local go_sem] max2_int min2_int max_two min_two max_three min_three max_four min_four   -- for this text's walks alone
set_option linter.unusedVariables false
set_option linter.unusedSimpArgs false

/-! ### clepsydralaw16_AnchorAges: function 8 -/
mutual
def clepsydralaw16_AnchorAges.j0 : Nat → List Int → Int → Int → Bool → Int → Int → Int → Int → Int → Int → Int → Int → Int → Int → Int → Int → Option (Bool)
  | 0, _, _, _, _, _, _, _, _, _, _, _, _, _, _, _, _ => none
  | k + 1, x1, x2, x3, x48, x254000, x254001, x254002, x254003, x254004, x254005, x254006, x254007, x254008, x254009, x254010, x254011 => if x48 = true then (some true) else (clepsydralaw16_AnchorAges.l0 k x1 x2 x3 0 x1 (x1.length : Int) 0 x254000 x254001 x254002 x254003 x254004 x254005 x254006 x254007 x254008 x254009 x254010 x254011)
def clepsydralaw16_AnchorAges.l0 : Nat → List Int → Int → Int → Int → List Int → Int → Int → Int → Int → Int → Int → Int → Int → Int → Int → Int → Int → Int → Int → Option (Bool)
  | 0, _, _, _, _, _, _, _, _, _, _, _, _, _, _, _, _, _, _, _ => none
  | k + 1, x1, x2, x3, x9, x49, x50, x51, x254000, x254001, x254002, x254003, x254004, x254005, x254006, x254007, x254008, x254009, x254010, x254011 => if x51 < x50 then (if 0 ≤ x51 then (if x51 < (x49.length : Int) then (if (rd x49 x51) < x2 then (clepsydralaw16_AnchorAges.l0 k x1 x2 x3 (wrap64 (x9 + 1)) x49 x50 (wrap64 (x51 + 1)) x254000 x254001 x254002 x254003 x254004 x254005 x254006 x254007 x254008 x254009 x254010 x254011) else (if (rd x49 x51) > x3 then (clepsydralaw16_AnchorAges.l0 k x1 x2 x3 (wrap64 (x9 + 1)) x49 x50 (wrap64 (x51 + 1)) x254000 x254001 x254002 x254003 x254004 x254005 x254006 x254007 x254008 x254009 x254010 x254011) else (clepsydralaw16_AnchorAges.l0 k x1 x2 x3 x9 x49 x50 (wrap64 (x51 + 1)) x254000 x254001 x254002 x254003 x254004 x254005 x254006 x254007 x254008 x254009 x254010 x254011))) else (none)) else (none)) else (if x9 > x254001 then (some true) else ((anchor_Held.f k x254000 x254001 x254002 x254003 x254004 x254005 x254006 x254007 x254008 x254009 x254010 x254011 x1).bind fun bt256 => (if bt256.2 = true then (if (wrap64 (x2 + 1)) ≤ bt256.1 then (some (decide (bt256.1 ≤ (wrap64 (x3 + 1))))) else (some false)) else (some false))))
end
def clepsydralaw16_AnchorAges.f (k : Nat) (a0_0 : Int) (a0_1 : Int) (a0_2 : Int) (a0_3 : Int) (a0_4 : Int) (a0_5 : Int) (a0_6 : Int) (a0_7 : Int) (a0_8 : Int) (a0_9 : Int) (a0_10 : Int) (a0_11 : Int) (l1 : List Int) (a2 : Int) (a3 : Int) : Option (Bool) := (clepsydralaw16_alive.f k).bind fun t254 => (if t254 = true then (if (l1.length : Int) > 256 then (clepsydralaw16_AnchorAges.j0 k l1 a2 a3 true a0_0 a0_1 a0_2 a0_3 a0_4 a0_5 a0_6 a0_7 a0_8 a0_9 a0_10 a0_11) else (if a0_1 < 0 then (clepsydralaw16_AnchorAges.j0 k l1 a2 a3 true a0_0 a0_1 a0_2 a0_3 a0_4 a0_5 a0_6 a0_7 a0_8 a0_9 a0_10 a0_11) else (if (l1.length : Int) ≤ a0_1 then (clepsydralaw16_AnchorAges.j0 k l1 a2 a3 true a0_0 a0_1 a0_2 a0_3 a0_4 a0_5 a0_6 a0_7 a0_8 a0_9 a0_10 a0_11) else (if (wrap64 ((l1.length : Int) - a0_1)) ≤ a0_1 then (clepsydralaw16_AnchorAges.j0 k l1 a2 a3 true a0_0 a0_1 a0_2 a0_3 a0_4 a0_5 a0_6 a0_7 a0_8 a0_9 a0_10 a0_11) else (if a2 < 0 then (clepsydralaw16_AnchorAges.j0 k l1 a2 a3 true a0_0 a0_1 a0_2 a0_3 a0_4 a0_5 a0_6 a0_7 a0_8 a0_9 a0_10 a0_11) else (clepsydralaw16_AnchorAges.j0 k l1 a2 a3 (decide (a3 > 536870912)) a0_0 a0_1 a0_2 a0_3 a0_4 a0_5 a0_6 a0_7 a0_8 a0_9 a0_10 a0_11)))))) else (some false))
theorem clepsydralaw16_AnchorAges.mono_l : ∀ k, (∀ y0 y1 y2 y3 y4 y5 y6 y7 y8 y9 y10 y11 y12 y13 y14 y15, LeO (clepsydralaw16_AnchorAges.j0 k y0 y1 y2 y3 y4 y5 y6 y7 y8 y9 y10 y11 y12 y13 y14 y15) (clepsydralaw16_AnchorAges.j0 (k + 1) y0 y1 y2 y3 y4 y5 y6 y7 y8 y9 y10 y11 y12 y13 y14 y15)) ∧ (∀ y0 y1 y2 y3 y4 y5 y6 y7 y8 y9 y10 y11 y12 y13 y14 y15 y16 y17 y18, LeO (clepsydralaw16_AnchorAges.l0 k y0 y1 y2 y3 y4 y5 y6 y7 y8 y9 y10 y11 y12 y13 y14 y15 y16 y17 y18) (clepsydralaw16_AnchorAges.l0 (k + 1) y0 y1 y2 y3 y4 y5 y6 y7 y8 y9 y10 y11 y12 y13 y14 y15 y16 y17 y18))
  | 0 => ⟨fun _ _ _ _ _ _ _ _ _ _ _ _ _ _ _ _ r h => by simp [clepsydralaw16_AnchorAges.j0] at h, fun _ _ _ _ _ _ _ _ _ _ _ _ _ _ _ _ _ _ _ r h => by simp [clepsydralaw16_AnchorAges.l0] at h⟩
  | k + 1 => by
    obtain ⟨ih0, ih1⟩ := clepsydralaw16_AnchorAges.mono_l k
    refine ⟨?_, ?_⟩
    · intro y0 y1 y2 y3 y4 y5 y6 y7 y8 y9 y10 y11 y12 y13 y14 y15
      unfold clepsydralaw16_AnchorAges.j0
      repeat' first
      | (with_reducible exact ih0 _ _ _ _ _ _ _ _ _ _ _ _ _ _ _ _)
      | (with_reducible exact ih1 _ _ _ _ _ _ _ _ _ _ _ _ _ _ _ _ _ _ _)
      | (with_reducible exact anchor_Held.mono _ _ _ _ _ _ _ _ _ _ _ _ _ _)
      | (with_reducible exact clepsydralaw16_alive.mono _)
      | (with_reducible exact LeO.refl _)
      | (with_reducible exact LeO.none _)
      | (with_reducible refine LeO.ite ?_ ?_)
      | (with_reducible refine LeO.bind ?_ (fun _ => ?_))
      | exact ih0 _ _ _ _ _ _ _ _ _ _ _ _ _ _ _ _
      | exact ih1 _ _ _ _ _ _ _ _ _ _ _ _ _ _ _ _ _ _ _
      | exact anchor_Held.mono _ _ _ _ _ _ _ _ _ _ _ _ _ _
      | exact clepsydralaw16_alive.mono _
      | exact LeO.none _
      | refine LeO.ite ?_ ?_
      | refine LeO.bind ?_ (fun _ => ?_)
    · intro y0 y1 y2 y3 y4 y5 y6 y7 y8 y9 y10 y11 y12 y13 y14 y15 y16 y17 y18
      unfold clepsydralaw16_AnchorAges.l0
      repeat' first
      | (with_reducible exact ih0 _ _ _ _ _ _ _ _ _ _ _ _ _ _ _ _)
      | (with_reducible exact ih1 _ _ _ _ _ _ _ _ _ _ _ _ _ _ _ _ _ _ _)
      | (with_reducible exact anchor_Held.mono _ _ _ _ _ _ _ _ _ _ _ _ _ _)
      | (with_reducible exact clepsydralaw16_alive.mono _)
      | (with_reducible exact LeO.refl _)
      | (with_reducible exact LeO.none _)
      | (with_reducible refine LeO.ite ?_ ?_)
      | (with_reducible refine LeO.bind ?_ (fun _ => ?_))
      | exact ih0 _ _ _ _ _ _ _ _ _ _ _ _ _ _ _ _
      | exact ih1 _ _ _ _ _ _ _ _ _ _ _ _ _ _ _ _ _ _ _
      | exact anchor_Held.mono _ _ _ _ _ _ _ _ _ _ _ _ _ _
      | exact clepsydralaw16_alive.mono _
      | exact LeO.none _
      | refine LeO.ite ?_ ?_
      | refine LeO.bind ?_ (fun _ => ?_)
theorem clepsydralaw16_AnchorAges.mono : ∀ a0 a1 a2 a3 a4 a5 a6 a7 a8 a9 a10 a11 a12 a13 a14 k, LeO (clepsydralaw16_AnchorAges.f k a0 a1 a2 a3 a4 a5 a6 a7 a8 a9 a10 a11 a12 a13 a14) (clepsydralaw16_AnchorAges.f (k + 1) a0 a1 a2 a3 a4 a5 a6 a7 a8 a9 a10 a11 a12 a13 a14) := by
  intro a0 a1 a2 a3 a4 a5 a6 a7 a8 a9 a10 a11 a12 a13 a14 k
  obtain ⟨ih0, ih1⟩ := clepsydralaw16_AnchorAges.mono_l k
  unfold clepsydralaw16_AnchorAges.f
  repeat' first
      | (with_reducible exact ih0 _ _ _ _ _ _ _ _ _ _ _ _ _ _ _ _)
      | (with_reducible exact ih1 _ _ _ _ _ _ _ _ _ _ _ _ _ _ _ _ _ _ _)
      | (with_reducible exact anchor_Held.mono _ _ _ _ _ _ _ _ _ _ _ _ _ _)
      | (with_reducible exact clepsydralaw16_alive.mono _)
      | (with_reducible exact LeO.refl _)
      | (with_reducible exact LeO.none _)
      | (with_reducible refine LeO.ite ?_ ?_)
      | (with_reducible refine LeO.bind ?_ (fun _ => ?_))
      | exact ih0 _ _ _ _ _ _ _ _ _ _ _ _ _ _ _ _
      | exact ih1 _ _ _ _ _ _ _ _ _ _ _ _ _ _ _ _ _ _ _
      | exact anchor_Held.mono _ _ _ _ _ _ _ _ _ _ _ _ _ _
      | exact clepsydralaw16_alive.mono _
      | exact LeO.none _
      | refine LeO.ite ?_ ?_
      | refine LeO.bind ?_ (fun _ => ?_)
set_option maxHeartbeats 8000000 in
set_option maxRecDepth 100000 in
theorem clepsydralaw16_AnchorAges.calls (k : Nat) (a0_0 : Int) (a0_1 : Int) (a0_2 : Int) (a0_3 : Int) (a0_4 : Int) (a0_5 : Int) (a0_6 : Int) (a0_7 : Int) (a0_8 : Int) (a0_9 : Int) (a0_10 : Int) (a0_11 : Int) (A1 : Option Addr) (c1 : Nat) (l1 : List Int) (a2 : Int) (a3 : Int) (r : Bool) (w : World) (hr1 : Kd.C (Kd.int .i64) w A1 l1.length l1) (hc1 : l1.length ≤ c1) (h : clepsydralaw16_AnchorAges.f k a0_0 a0_1 a0_2 a0_3 a0_4 a0_5 a0_6 a0_7 a0_8 a0_9 a0_10 a0_11 l1 a2 a3 = some r) :
    Calls Try.prog 8 #[.agg #[.int .i64 a0_0, .int .i64 a0_1, .int .i64 a0_2, .int .i64 a0_3, .int .i64 a0_4, .int .i64 a0_5, .int .i64 a0_6, .int .i64 a0_7, .int .i64 a0_8, .int .i64 a0_9, .int .i64 a0_10, .int .i64 a0_11], .slice A1 l1.length c1, .int .i64 a2, .int .i64 a3] w fun e w' => e = .returned (.bool r) ∧ Below w.heap.size w w' := by
  have hu23 := Try.underlying23
  have HR1 := Aside0.mk hr1
  have HC1 := Aside0.mk hc1
  clear hr1 hc1
  have HB := Aside0.mk (Below.refl w.heap.size w)
  have H : ((clepsydralaw16_alive.f k).bind fun t254 => (if t254 = true then (if (l1.length : Int) > 256 then (clepsydralaw16_AnchorAges.j0 k l1 a2 a3 true a0_0 a0_1 a0_2 a0_3 a0_4 a0_5 a0_6 a0_7 a0_8 a0_9 a0_10 a0_11) else (if a0_1 < 0 then (clepsydralaw16_AnchorAges.j0 k l1 a2 a3 true a0_0 a0_1 a0_2 a0_3 a0_4 a0_5 a0_6 a0_7 a0_8 a0_9 a0_10 a0_11) else (if (l1.length : Int) ≤ a0_1 then (clepsydralaw16_AnchorAges.j0 k l1 a2 a3 true a0_0 a0_1 a0_2 a0_3 a0_4 a0_5 a0_6 a0_7 a0_8 a0_9 a0_10 a0_11) else (if (wrap64 ((l1.length : Int) - a0_1)) ≤ a0_1 then (clepsydralaw16_AnchorAges.j0 k l1 a2 a3 true a0_0 a0_1 a0_2 a0_3 a0_4 a0_5 a0_6 a0_7 a0_8 a0_9 a0_10 a0_11) else (if a2 < 0 then (clepsydralaw16_AnchorAges.j0 k l1 a2 a3 true a0_0 a0_1 a0_2 a0_3 a0_4 a0_5 a0_6 a0_7 a0_8 a0_9 a0_10 a0_11) else (clepsydralaw16_AnchorAges.j0 k l1 a2 a3 (decide (a3 > 536870912)) a0_0 a0_1 a0_2 a0_3 a0_4 a0_5 a0_6 a0_7 a0_8 a0_9 a0_10 a0_11)))))) else (some false))) = some r := h
  clear h
  replace H := Option.bind_eq_some_iff.mp H
  obtain ⟨t254, A50, H⟩ := H
  replace H : (if t254 = true then (if (l1.length : Int) > 256 then (clepsydralaw16_AnchorAges.j0 k l1 a2 a3 true a0_0 a0_1 a0_2 a0_3 a0_4 a0_5 a0_6 a0_7 a0_8 a0_9 a0_10 a0_11) else (if a0_1 < 0 then (clepsydralaw16_AnchorAges.j0 k l1 a2 a3 true a0_0 a0_1 a0_2 a0_3 a0_4 a0_5 a0_6 a0_7 a0_8 a0_9 a0_10 a0_11) else (if (l1.length : Int) ≤ a0_1 then (clepsydralaw16_AnchorAges.j0 k l1 a2 a3 true a0_0 a0_1 a0_2 a0_3 a0_4 a0_5 a0_6 a0_7 a0_8 a0_9 a0_10 a0_11) else (if (wrap64 ((l1.length : Int) - a0_1)) ≤ a0_1 then (clepsydralaw16_AnchorAges.j0 k l1 a2 a3 true a0_0 a0_1 a0_2 a0_3 a0_4 a0_5 a0_6 a0_7 a0_8 a0_9 a0_10 a0_11) else (if a2 < 0 then (clepsydralaw16_AnchorAges.j0 k l1 a2 a3 true a0_0 a0_1 a0_2 a0_3 a0_4 a0_5 a0_6 a0_7 a0_8 a0_9 a0_10 a0_11) else (clepsydralaw16_AnchorAges.j0 k l1 a2 a3 (decide (a3 > 536870912)) a0_0 a0_1 a0_2 a0_3 a0_4 a0_5 a0_6 a0_7 a0_8 a0_9 a0_10 a0_11)))))) else (some false)) = some r := H
  have A5 := Aside0.mk A50
  clear A50
  by_cases c6 : t254 = true
  · subst c6
    have H1 : (if (l1.length : Int) > 256 then (clepsydralaw16_AnchorAges.j0 k l1 a2 a3 true a0_0 a0_1 a0_2 a0_3 a0_4 a0_5 a0_6 a0_7 a0_8 a0_9 a0_10 a0_11) else (if a0_1 < 0 then (clepsydralaw16_AnchorAges.j0 k l1 a2 a3 true a0_0 a0_1 a0_2 a0_3 a0_4 a0_5 a0_6 a0_7 a0_8 a0_9 a0_10 a0_11) else (if (l1.length : Int) ≤ a0_1 then (clepsydralaw16_AnchorAges.j0 k l1 a2 a3 true a0_0 a0_1 a0_2 a0_3 a0_4 a0_5 a0_6 a0_7 a0_8 a0_9 a0_10 a0_11) else (if (wrap64 ((l1.length : Int) - a0_1)) ≤ a0_1 then (clepsydralaw16_AnchorAges.j0 k l1 a2 a3 true a0_0 a0_1 a0_2 a0_3 a0_4 a0_5 a0_6 a0_7 a0_8 a0_9 a0_10 a0_11) else (if a2 < 0 then (clepsydralaw16_AnchorAges.j0 k l1 a2 a3 true a0_0 a0_1 a0_2 a0_3 a0_4 a0_5 a0_6 a0_7 a0_8 a0_9 a0_10 a0_11) else (clepsydralaw16_AnchorAges.j0 k l1 a2 a3 (decide (a3 > 536870912)) a0_0 a0_1 a0_2 a0_3 a0_4 a0_5 a0_6 a0_7 a0_8 a0_9 a0_10 a0_11)))))) = some r := by rw [if_pos rfl] at H; exact H
    clear H
    have H := H1
    clear H1
    have HC7 := Aside0.mk H
    clear H
    go_enter Try.func8, Try.ntmps8
    go_upto_region 3 with (first | ((with_reducible refine gate_dst (N := 4) rfl ?_); (try (refine gate_guard (by rfl) ?_; dsimp only)); refine box_event ?hg (N := 4) ?hd (cs := #[.int .i64 a0_0, .int .i64 a0_1, .int .i64 a0_2, .int .i64 a0_3, .int .i64 a0_4, .int .i64 a0_5, .int .i64 a0_6, .int .i64 a0_7, .int .i64 a0_8, .int .i64 a0_9, .int .i64 a0_10, .int .i64 a0_11]) (t := 23) ?hr ?_; (case hd => rfl); (case hg => rfl); (case hr => first | (go_simp; done) | (go_simp; rfl)); intro gb253 hg w8 hbox hb; have n0_ := Aside0.mk (below_step (by repeat (first | (with_reducible first | exact HB.out | apply below_alloc | apply pw_below_drewN | apply below_drew1) | exact HB.out)) hb); have n1_ := Aside0.mk (hbox); have n2_ := Aside0.mk ((by rw [hg]; exact (below_size (by repeat (first | (with_reducible first | exact HB.out | apply below_alloc | apply pw_below_drewN | apply below_drew1) | exact HB.out))) : w.heap.size ≤ gb253)); have n3_ := Aside0.mk ((by rw [hg]; exact (below_size (by repeat (first | (with_reducible first | exact HB.out | apply below_alloc | apply pw_below_drewN | apply below_drew1) | exact HB.out))) : w.heap.size ≤ gb253)); clear HB; have HB := n0_; have BK253 := n1_; have GW253 := n2_; have GE253 := n3_; clear n0_ n1_ n2_ n3_; clear hb hbox hg) | ((with_reducible refine gate_callee (f := 23) rfl ?_); refine goesL_ (some 14) rfl rfl Try.func23 (by kernel_rfl) rfl #[] rfl (by (try simp only [List.map_toArray, List.map_cons, List.map_nil]); first | done | rfl | (simp only [List.length_drop, List.length_take]; rfl)) ?_; (with_reducible refine (clepsydralaw16_alive.calls k  true _ A5.out).mono ?_); rintro e w9 ⟨rfl, hb⟩; refine ⟨_, rfl, ?_⟩; have n0_ := Aside0.mk (blk_below (g := gb253) (o := .cells #[.int .i64 a0_0, .int .i64 a0_1, .int .i64 a0_2, .int .i64 a0_3, .int .i64 a0_4, .int .i64 a0_5, .int .i64 a0_6, .int .i64 a0_7, .int .i64 a0_8, .int .i64 a0_9, .int .i64 a0_10, .int .i64 a0_11] 23 (0, 0)) (by (with_reducible repeat (first | refine blk_drewN ?_ _ | refine blk_drew ?_ | refine blk_alloc ?_ _)); exact BK253.out) hb); have n1_ := Aside0.mk (below_step (by repeat (first | (with_reducible first | exact HB.out | apply below_alloc | apply pw_below_drewN | apply below_drew1 | refine below_set ?_ GE253.out) | exact HB.out)) hb); clear BK253; clear HB; have BK253 := n0_; have HB := n1_; clear n0_ n1_; (try clear hb); (try clear hb2); (try clear hk); (try clear hi)))
    (try simp only [Act.put, List.setIfInBounds_toArray, List.set_cons_zero, List.set_cons_succ])
    go_cut [48] (fun v48 wc => ∃ (kq : Nat) (x48_6 : Bool), v48 = .bool x48_6 ∧ Aside0 (clepsydralaw16_AnchorAges.j0 kq l1 a2 a3 x48_6 a0_0 a0_1 a0_2 a0_3 a0_4 a0_5 a0_6 a0_7 a0_8 a0_9 a0_10 a0_11 = some r) ∧ Aside0 (kq ≤ k) ∧ Aside0 (wc.heap[gb253]? = some (.cells #[.int .i64 a0_0, .int .i64 a0_1, .int .i64 a0_2, .int .i64 a0_3, .int .i64 a0_4, .int .i64 a0_5, .int .i64 a0_6, .int .i64 a0_7, .int .i64 a0_8, .int .i64 a0_9, .int .i64 a0_10, .int .i64 a0_11] 23 (0, 0))) ∧ Aside0 (Below w.heap.size w wc))
    case first =>
      have H := HC7.out
      clear HC7
      by_cases c10 : (l1.length : Int) > 256
      · rw [if_pos c10] at H
        have c10b0 : decide (256 < (l1.length : Int)) = true := decide_eq_true c10
        have c10b1 : decide (256 < l1.length) = true := decide_eq_true (by omega)
        clear c10
        (first | rw [c10b0] | (simp only [i64_w, i32_w]; rw [c10b0]) | skip)
        have H' := Aside0.mk H
        clear H
        go_wp2
        go_meet
        case rel => exact ⟨_, (true), (by first | rfl | (simp; done) | (simp [*]; done)), H', ⟨by first | omega | exact Nat.le_refl _⟩, ⟨by (with_reducible repeat (first | refine blk_drewN ?_ _ | refine blk_drew ?_ | refine blk_alloc ?_ _)); exact BK253.out⟩, ⟨by repeat (first | (with_reducible first | exact HB.out | apply below_alloc | apply pw_below_drewN | apply below_drew1 | refine below_set ?_ GE253.out) | exact HB.out)⟩⟩
      · rw [if_neg c10] at H
        have c10b0 : decide (256 < (l1.length : Int)) = false := decide_eq_false c10
        have c10b1 : decide (256 < l1.length) = false := decide_eq_false (by omega)
        clear c10
        (first | rw [c10b0] | (simp only [i64_w, i32_w]; rw [c10b0]) | skip)
        by_cases c11 : a0_1 < 0
        · rw [if_pos c11] at H
          have c11b0 : decide (a0_1 < 0) = true := decide_eq_true c11
          clear c11
          have H' := Aside0.mk H
          clear H
          have hcz12_0 : w9.cell? ⟨gb253, 0, none⟩ = some (.int .i64 a0_0) := (blk_cell BK253.out 0).trans rfl
          have hcz12_1 : w9.cell? ⟨gb253, 1, none⟩ = some (.int .i64 a0_1) := (blk_cell BK253.out 1).trans rfl
          have hcz12_2 : w9.cell? ⟨gb253, 2, none⟩ = some (.int .i64 a0_2) := (blk_cell BK253.out 2).trans rfl
          have hcz12_3 : w9.cell? ⟨gb253, 3, none⟩ = some (.int .i64 a0_3) := (blk_cell BK253.out 3).trans rfl
          have hcz12_4 : w9.cell? ⟨gb253, 4, none⟩ = some (.int .i64 a0_4) := (blk_cell BK253.out 4).trans rfl
          have hcz12_5 : w9.cell? ⟨gb253, 5, none⟩ = some (.int .i64 a0_5) := (blk_cell BK253.out 5).trans rfl
          have hcz12_6 : w9.cell? ⟨gb253, 6, none⟩ = some (.int .i64 a0_6) := (blk_cell BK253.out 6).trans rfl
          have hcz12_7 : w9.cell? ⟨gb253, 7, none⟩ = some (.int .i64 a0_7) := (blk_cell BK253.out 7).trans rfl
          have hcz12_8 : w9.cell? ⟨gb253, 8, none⟩ = some (.int .i64 a0_8) := (blk_cell BK253.out 8).trans rfl
          have hcz12_9 : w9.cell? ⟨gb253, 9, none⟩ = some (.int .i64 a0_9) := (blk_cell BK253.out 9).trans rfl
          have hcz12_10 : w9.cell? ⟨gb253, 10, none⟩ = some (.int .i64 a0_10) := (blk_cell BK253.out 10).trans rfl
          have hcz12_11 : w9.cell? ⟨gb253, 11, none⟩ = some (.int .i64 a0_11) := (blk_cell BK253.out 11).trans rfl
          have hfz12_0 := blk_frozen BK253.out 0
          have hfz12_1 := blk_frozen BK253.out 1
          have hfz12_2 := blk_frozen BK253.out 2
          have hfz12_3 := blk_frozen BK253.out 3
          have hfz12_4 := blk_frozen BK253.out 4
          have hfz12_5 := blk_frozen BK253.out 5
          have hfz12_6 := blk_frozen BK253.out 6
          have hfz12_7 := blk_frozen BK253.out 7
          have hfz12_8 := blk_frozen BK253.out 8
          have hfz12_9 := blk_frozen BK253.out 9
          have hfz12_10 := blk_frozen BK253.out 10
          have hfz12_11 := blk_frozen BK253.out 11
          go_wp2
          go_meet
          case rel => exact ⟨_, (true), (by first | rfl | (simp; done) | (simp [*]; done)), H', ⟨by first | omega | exact Nat.le_refl _⟩, ⟨by (with_reducible repeat (first | refine blk_drewN ?_ _ | refine blk_drew ?_ | refine blk_alloc ?_ _)); exact BK253.out⟩, ⟨by repeat (first | (with_reducible first | exact HB.out | apply below_alloc | apply pw_below_drewN | apply below_drew1 | refine below_set ?_ GE253.out) | exact HB.out)⟩⟩
        · rw [if_neg c11] at H
          have c11b0 : decide (a0_1 < 0) = false := decide_eq_false c11
          clear c11
          by_cases c13 : (l1.length : Int) ≤ a0_1
          · rw [if_pos c13] at H
            have c13b0 : decide ((l1.length : Int) ≤ a0_1) = true := decide_eq_true c13
            clear c13
            have H' := Aside0.mk H
            clear H
            have hcz14_0 : w9.cell? ⟨gb253, 0, none⟩ = some (.int .i64 a0_0) := (blk_cell BK253.out 0).trans rfl
            have hcz14_1 : w9.cell? ⟨gb253, 1, none⟩ = some (.int .i64 a0_1) := (blk_cell BK253.out 1).trans rfl
            have hcz14_2 : w9.cell? ⟨gb253, 2, none⟩ = some (.int .i64 a0_2) := (blk_cell BK253.out 2).trans rfl
            have hcz14_3 : w9.cell? ⟨gb253, 3, none⟩ = some (.int .i64 a0_3) := (blk_cell BK253.out 3).trans rfl
            have hcz14_4 : w9.cell? ⟨gb253, 4, none⟩ = some (.int .i64 a0_4) := (blk_cell BK253.out 4).trans rfl
            have hcz14_5 : w9.cell? ⟨gb253, 5, none⟩ = some (.int .i64 a0_5) := (blk_cell BK253.out 5).trans rfl
            have hcz14_6 : w9.cell? ⟨gb253, 6, none⟩ = some (.int .i64 a0_6) := (blk_cell BK253.out 6).trans rfl
            have hcz14_7 : w9.cell? ⟨gb253, 7, none⟩ = some (.int .i64 a0_7) := (blk_cell BK253.out 7).trans rfl
            have hcz14_8 : w9.cell? ⟨gb253, 8, none⟩ = some (.int .i64 a0_8) := (blk_cell BK253.out 8).trans rfl
            have hcz14_9 : w9.cell? ⟨gb253, 9, none⟩ = some (.int .i64 a0_9) := (blk_cell BK253.out 9).trans rfl
            have hcz14_10 : w9.cell? ⟨gb253, 10, none⟩ = some (.int .i64 a0_10) := (blk_cell BK253.out 10).trans rfl
            have hcz14_11 : w9.cell? ⟨gb253, 11, none⟩ = some (.int .i64 a0_11) := (blk_cell BK253.out 11).trans rfl
            have hfz14_0 := blk_frozen BK253.out 0
            have hfz14_1 := blk_frozen BK253.out 1
            have hfz14_2 := blk_frozen BK253.out 2
            have hfz14_3 := blk_frozen BK253.out 3
            have hfz14_4 := blk_frozen BK253.out 4
            have hfz14_5 := blk_frozen BK253.out 5
            have hfz14_6 := blk_frozen BK253.out 6
            have hfz14_7 := blk_frozen BK253.out 7
            have hfz14_8 := blk_frozen BK253.out 8
            have hfz14_9 := blk_frozen BK253.out 9
            have hfz14_10 := blk_frozen BK253.out 10
            have hfz14_11 := blk_frozen BK253.out 11
            go_wp2
            go_meet
            case rel => exact ⟨_, (true), (by first | rfl | (simp; done) | (simp [*]; done)), H', ⟨by first | omega | exact Nat.le_refl _⟩, ⟨by (with_reducible repeat (first | refine blk_drewN ?_ _ | refine blk_drew ?_ | refine blk_alloc ?_ _)); exact BK253.out⟩, ⟨by repeat (first | (with_reducible first | exact HB.out | apply below_alloc | apply pw_below_drewN | apply below_drew1 | refine below_set ?_ GE253.out) | exact HB.out)⟩⟩
          · rw [if_neg c13] at H
            have c13b0 : decide ((l1.length : Int) ≤ a0_1) = false := decide_eq_false c13
            clear c13
            by_cases c15 : (wrap64 ((l1.length : Int) - a0_1)) ≤ a0_1
            · rw [if_pos c15] at H
              have c15b0 : decide ((wrap64 ((l1.length : Int) - a0_1)) ≤ a0_1) = true := decide_eq_true c15
              clear c15
              have H' := Aside0.mk H
              clear H
              have hcz16_0 : w9.cell? ⟨gb253, 0, none⟩ = some (.int .i64 a0_0) := (blk_cell BK253.out 0).trans rfl
              have hcz16_1 : w9.cell? ⟨gb253, 1, none⟩ = some (.int .i64 a0_1) := (blk_cell BK253.out 1).trans rfl
              have hcz16_2 : w9.cell? ⟨gb253, 2, none⟩ = some (.int .i64 a0_2) := (blk_cell BK253.out 2).trans rfl
              have hcz16_3 : w9.cell? ⟨gb253, 3, none⟩ = some (.int .i64 a0_3) := (blk_cell BK253.out 3).trans rfl
              have hcz16_4 : w9.cell? ⟨gb253, 4, none⟩ = some (.int .i64 a0_4) := (blk_cell BK253.out 4).trans rfl
              have hcz16_5 : w9.cell? ⟨gb253, 5, none⟩ = some (.int .i64 a0_5) := (blk_cell BK253.out 5).trans rfl
              have hcz16_6 : w9.cell? ⟨gb253, 6, none⟩ = some (.int .i64 a0_6) := (blk_cell BK253.out 6).trans rfl
              have hcz16_7 : w9.cell? ⟨gb253, 7, none⟩ = some (.int .i64 a0_7) := (blk_cell BK253.out 7).trans rfl
              have hcz16_8 : w9.cell? ⟨gb253, 8, none⟩ = some (.int .i64 a0_8) := (blk_cell BK253.out 8).trans rfl
              have hcz16_9 : w9.cell? ⟨gb253, 9, none⟩ = some (.int .i64 a0_9) := (blk_cell BK253.out 9).trans rfl
              have hcz16_10 : w9.cell? ⟨gb253, 10, none⟩ = some (.int .i64 a0_10) := (blk_cell BK253.out 10).trans rfl
              have hcz16_11 : w9.cell? ⟨gb253, 11, none⟩ = some (.int .i64 a0_11) := (blk_cell BK253.out 11).trans rfl
              have hfz16_0 := blk_frozen BK253.out 0
              have hfz16_1 := blk_frozen BK253.out 1
              have hfz16_2 := blk_frozen BK253.out 2
              have hfz16_3 := blk_frozen BK253.out 3
              have hfz16_4 := blk_frozen BK253.out 4
              have hfz16_5 := blk_frozen BK253.out 5
              have hfz16_6 := blk_frozen BK253.out 6
              have hfz16_7 := blk_frozen BK253.out 7
              have hfz16_8 := blk_frozen BK253.out 8
              have hfz16_9 := blk_frozen BK253.out 9
              have hfz16_10 := blk_frozen BK253.out 10
              have hfz16_11 := blk_frozen BK253.out 11
              go_wp2
              go_meet
              case rel => exact ⟨_, (true), (by first | rfl | (simp; done) | (simp [*]; done)), H', ⟨by first | omega | exact Nat.le_refl _⟩, ⟨by (with_reducible repeat (first | refine blk_drewN ?_ _ | refine blk_drew ?_ | refine blk_alloc ?_ _)); exact BK253.out⟩, ⟨by repeat (first | (with_reducible first | exact HB.out | apply below_alloc | apply pw_below_drewN | apply below_drew1 | refine below_set ?_ GE253.out) | exact HB.out)⟩⟩
            · rw [if_neg c15] at H
              have c15b0 : decide ((wrap64 ((l1.length : Int) - a0_1)) ≤ a0_1) = false := decide_eq_false c15
              clear c15
              by_cases c17 : a2 < 0
              · rw [if_pos c17] at H
                have c17b0 : decide (a2 < 0) = true := decide_eq_true c17
                clear c17
                have H' := Aside0.mk H
                clear H
                have hcz18_0 : w9.cell? ⟨gb253, 0, none⟩ = some (.int .i64 a0_0) := (blk_cell BK253.out 0).trans rfl
                have hcz18_1 : w9.cell? ⟨gb253, 1, none⟩ = some (.int .i64 a0_1) := (blk_cell BK253.out 1).trans rfl
                have hcz18_2 : w9.cell? ⟨gb253, 2, none⟩ = some (.int .i64 a0_2) := (blk_cell BK253.out 2).trans rfl
                have hcz18_3 : w9.cell? ⟨gb253, 3, none⟩ = some (.int .i64 a0_3) := (blk_cell BK253.out 3).trans rfl
                have hcz18_4 : w9.cell? ⟨gb253, 4, none⟩ = some (.int .i64 a0_4) := (blk_cell BK253.out 4).trans rfl
                have hcz18_5 : w9.cell? ⟨gb253, 5, none⟩ = some (.int .i64 a0_5) := (blk_cell BK253.out 5).trans rfl
                have hcz18_6 : w9.cell? ⟨gb253, 6, none⟩ = some (.int .i64 a0_6) := (blk_cell BK253.out 6).trans rfl
                have hcz18_7 : w9.cell? ⟨gb253, 7, none⟩ = some (.int .i64 a0_7) := (blk_cell BK253.out 7).trans rfl
                have hcz18_8 : w9.cell? ⟨gb253, 8, none⟩ = some (.int .i64 a0_8) := (blk_cell BK253.out 8).trans rfl
                have hcz18_9 : w9.cell? ⟨gb253, 9, none⟩ = some (.int .i64 a0_9) := (blk_cell BK253.out 9).trans rfl
                have hcz18_10 : w9.cell? ⟨gb253, 10, none⟩ = some (.int .i64 a0_10) := (blk_cell BK253.out 10).trans rfl
                have hcz18_11 : w9.cell? ⟨gb253, 11, none⟩ = some (.int .i64 a0_11) := (blk_cell BK253.out 11).trans rfl
                have hfz18_0 := blk_frozen BK253.out 0
                have hfz18_1 := blk_frozen BK253.out 1
                have hfz18_2 := blk_frozen BK253.out 2
                have hfz18_3 := blk_frozen BK253.out 3
                have hfz18_4 := blk_frozen BK253.out 4
                have hfz18_5 := blk_frozen BK253.out 5
                have hfz18_6 := blk_frozen BK253.out 6
                have hfz18_7 := blk_frozen BK253.out 7
                have hfz18_8 := blk_frozen BK253.out 8
                have hfz18_9 := blk_frozen BK253.out 9
                have hfz18_10 := blk_frozen BK253.out 10
                have hfz18_11 := blk_frozen BK253.out 11
                go_wp2
                go_meet
                case rel => exact ⟨_, (true), (by first | rfl | (simp; done) | (simp [*]; done)), H', ⟨by first | omega | exact Nat.le_refl _⟩, ⟨by (with_reducible repeat (first | refine blk_drewN ?_ _ | refine blk_drew ?_ | refine blk_alloc ?_ _)); exact BK253.out⟩, ⟨by repeat (first | (with_reducible first | exact HB.out | apply below_alloc | apply pw_below_drewN | apply below_drew1 | refine below_set ?_ GE253.out) | exact HB.out)⟩⟩
              · rw [if_neg c17] at H
                have c17b0 : decide (a2 < 0) = false := decide_eq_false c17
                clear c17
                have H' := Aside0.mk H
                clear H
                have hcz19_0 : w9.cell? ⟨gb253, 0, none⟩ = some (.int .i64 a0_0) := (blk_cell BK253.out 0).trans rfl
                have hcz19_1 : w9.cell? ⟨gb253, 1, none⟩ = some (.int .i64 a0_1) := (blk_cell BK253.out 1).trans rfl
                have hcz19_2 : w9.cell? ⟨gb253, 2, none⟩ = some (.int .i64 a0_2) := (blk_cell BK253.out 2).trans rfl
                have hcz19_3 : w9.cell? ⟨gb253, 3, none⟩ = some (.int .i64 a0_3) := (blk_cell BK253.out 3).trans rfl
                have hcz19_4 : w9.cell? ⟨gb253, 4, none⟩ = some (.int .i64 a0_4) := (blk_cell BK253.out 4).trans rfl
                have hcz19_5 : w9.cell? ⟨gb253, 5, none⟩ = some (.int .i64 a0_5) := (blk_cell BK253.out 5).trans rfl
                have hcz19_6 : w9.cell? ⟨gb253, 6, none⟩ = some (.int .i64 a0_6) := (blk_cell BK253.out 6).trans rfl
                have hcz19_7 : w9.cell? ⟨gb253, 7, none⟩ = some (.int .i64 a0_7) := (blk_cell BK253.out 7).trans rfl
                have hcz19_8 : w9.cell? ⟨gb253, 8, none⟩ = some (.int .i64 a0_8) := (blk_cell BK253.out 8).trans rfl
                have hcz19_9 : w9.cell? ⟨gb253, 9, none⟩ = some (.int .i64 a0_9) := (blk_cell BK253.out 9).trans rfl
                have hcz19_10 : w9.cell? ⟨gb253, 10, none⟩ = some (.int .i64 a0_10) := (blk_cell BK253.out 10).trans rfl
                have hcz19_11 : w9.cell? ⟨gb253, 11, none⟩ = some (.int .i64 a0_11) := (blk_cell BK253.out 11).trans rfl
                have hfz19_0 := blk_frozen BK253.out 0
                have hfz19_1 := blk_frozen BK253.out 1
                have hfz19_2 := blk_frozen BK253.out 2
                have hfz19_3 := blk_frozen BK253.out 3
                have hfz19_4 := blk_frozen BK253.out 4
                have hfz19_5 := blk_frozen BK253.out 5
                have hfz19_6 := blk_frozen BK253.out 6
                have hfz19_7 := blk_frozen BK253.out 7
                have hfz19_8 := blk_frozen BK253.out 8
                have hfz19_9 := blk_frozen BK253.out 9
                have hfz19_10 := blk_frozen BK253.out 10
                have hfz19_11 := blk_frozen BK253.out 11
                go_wp2
                go_meet
                case rel => exact ⟨_, (decide (a3 > 536870912)), (by first | rfl | (simp; done) | (simp [*]; done)), H', ⟨by first | omega | exact Nat.le_refl _⟩, ⟨by (with_reducible repeat (first | refine blk_drewN ?_ _ | refine blk_drew ?_ | refine blk_alloc ?_ _)); exact BK253.out⟩, ⟨by repeat (first | (with_reducible first | exact HB.out | apply below_alloc | apply pw_below_drewN | apply below_drew1 | refine below_set ?_ GE253.out) | exact HB.out)⟩⟩
    case rest =>
      clear HC7
      try clear c1
      try clear c2
      try clear p2
      try clear c6
      try clear p6
      try clear c8
      try clear c10
      try clear c10b0
      try clear c10b1
      try clear c11
      try clear c11b0
      try clear c13
      try clear c13b0
      try clear c15
      try clear c15b0
      try clear c17
      try clear c17b0
      try clear hcz12_0
      try clear hcz12_1
      try clear hcz12_10
      try clear hcz12_11
      try clear hcz12_2
      try clear hcz12_3
      try clear hcz12_4
      try clear hcz12_5
      try clear hcz12_6
      try clear hcz12_7
      try clear hcz12_8
      try clear hcz12_9
      try clear hcz14_0
      try clear hcz14_1
      try clear hcz14_10
      try clear hcz14_11
      try clear hcz14_2
      try clear hcz14_3
      try clear hcz14_4
      try clear hcz14_5
      try clear hcz14_6
      try clear hcz14_7
      try clear hcz14_8
      try clear hcz14_9
      try clear hcz16_0
      try clear hcz16_1
      try clear hcz16_10
      try clear hcz16_11
      try clear hcz16_2
      try clear hcz16_3
      try clear hcz16_4
      try clear hcz16_5
      try clear hcz16_6
      try clear hcz16_7
      try clear hcz16_8
      try clear hcz16_9
      try clear hcz18_0
      try clear hcz18_1
      try clear hcz18_10
      try clear hcz18_11
      try clear hcz18_2
      try clear hcz18_3
      try clear hcz18_4
      try clear hcz18_5
      try clear hcz18_6
      try clear hcz18_7
      try clear hcz18_8
      try clear hcz18_9
      try clear hcz19_0
      try clear hcz19_1
      try clear hcz19_10
      try clear hcz19_11
      try clear hcz19_2
      try clear hcz19_3
      try clear hcz19_4
      try clear hcz19_5
      try clear hcz19_6
      try clear hcz19_7
      try clear hcz19_8
      try clear hcz19_9
      try clear hfz12_0
      try clear hfz12_1
      try clear hfz12_10
      try clear hfz12_11
      try clear hfz12_2
      try clear hfz12_3
      try clear hfz12_4
      try clear hfz12_5
      try clear hfz12_6
      try clear hfz12_7
      try clear hfz12_8
      try clear hfz12_9
      try clear hfz14_0
      try clear hfz14_1
      try clear hfz14_10
      try clear hfz14_11
      try clear hfz14_2
      try clear hfz14_3
      try clear hfz14_4
      try clear hfz14_5
      try clear hfz14_6
      try clear hfz14_7
      try clear hfz14_8
      try clear hfz14_9
      try clear hfz16_0
      try clear hfz16_1
      try clear hfz16_10
      try clear hfz16_11
      try clear hfz16_2
      try clear hfz16_3
      try clear hfz16_4
      try clear hfz16_5
      try clear hfz16_6
      try clear hfz16_7
      try clear hfz16_8
      try clear hfz16_9
      try clear hfz18_0
      try clear hfz18_1
      try clear hfz18_10
      try clear hfz18_11
      try clear hfz18_2
      try clear hfz18_3
      try clear hfz18_4
      try clear hfz18_5
      try clear hfz18_6
      try clear hfz18_7
      try clear hfz18_8
      try clear hfz18_9
      try clear hfz19_0
      try clear hfz19_1
      try clear hfz19_10
      try clear hfz19_11
      try clear hfz19_2
      try clear hfz19_3
      try clear hfz19_4
      try clear hfz19_5
      try clear hfz19_6
      try clear hfz19_7
      try clear hfz19_8
      try clear hfz19_9
      obtain ⟨kq, x48_6, rfl, HA, HJ6, BK253, HB⟩ := hcut
      cases kq with
      | zero => exact absurd HA.out (by simp [clepsydralaw16_AnchorAges.j0])
      | succ kj6 =>
        have H := HA.out
        clear HA
        simp only [clepsydralaw16_AnchorAges.j0] at H
        by_cases c20 : x48_6 = true
        · subst c20
          have H1 : (some true) = some r := by rw [if_pos rfl] at H; exact H
          clear H
          have H := H1
          clear H1
          obtain rfl := Option.some.inj H
          go_wp2
          go_ret
          exact ⟨by first | rfl | (simp [errW_none, errW_some] <;> rfl) | (simp [*, errW_none, errW_some] <;> rfl), by repeat (first | (with_reducible first | exact HB.out | apply below_alloc | apply pw_below_drewN | apply below_drew1 | refine below_set ?_ GE253.out) | exact HB.out)⟩
        · replace c20 := Bool.eq_false_iff.mpr c20
          subst c20
          have H1 : (clepsydralaw16_AnchorAges.l0 kj6 l1 a2 a3 0 l1 (l1.length : Int) 0 a0_0 a0_1 a0_2 a0_3 a0_4 a0_5 a0_6 a0_7 a0_8 a0_9 a0_10 a0_11) = some r := by rw [if_neg (show ¬ (false = true) by decide)] at H; exact H
          clear H
          have H := H1
          clear H1
          have H' := Aside0.mk H
          clear H
          go_wp2
          go_loopg [9, 51] kj6 (fun kq v9 v51 w' => ∃ (x9_2 : Int) (x51_2 : Int), v9 = .int .i64 x9_2 ∧ v51 = .int .i64 x51_2 ∧ Aside0 (clepsydralaw16_AnchorAges.l0 kq l1 a2 a3 x9_2 l1 (l1.length : Int) x51_2 a0_0 a0_1 a0_2 a0_3 a0_4 a0_5 a0_6 a0_7 a0_8 a0_9 a0_10 a0_11 = some r) ∧ Aside0 (kq ≤ kj6) ∧ Aside0 (w'.heap[gb253]? = some (.cells #[.int .i64 a0_0, .int .i64 a0_1, .int .i64 a0_2, .int .i64 a0_3, .int .i64 a0_4, .int .i64 a0_5, .int .i64 a0_6, .int .i64 a0_7, .int .i64 a0_8, .int .i64 a0_9, .int .i64 a0_10, .int .i64 a0_11] 23 (0, 0))) ∧ Aside0 (Below w.heap.size w w'))
          case atStart => exact ⟨(0), (0), (by first | rfl | (simp; done) | (simp [*]; done)), (by first | rfl | (simp; done) | (simp [*]; done)), H', ⟨Nat.le_refl _⟩, ⟨by (with_reducible repeat (first | refine blk_drewN ?_ _ | refine blk_drew ?_ | refine blk_alloc ?_ _)); exact BK253.out⟩, ⟨by repeat (first | (with_reducible first | exact HB.out | apply below_alloc | apply pw_below_drewN | apply below_drew1 | refine below_set ?_ GE253.out) | exact HB.out)⟩⟩
          case round =>
            clear H'
            try clear c1
            try clear c2
            try clear p2
            try clear c6
            try clear p6
            try clear c8
            try clear c10
            try clear c10b0
            try clear c10b1
            try clear c11
            try clear c11b0
            try clear c13
            try clear c13b0
            try clear c15
            try clear c15b0
            try clear c17
            try clear c17b0
            try clear c20
            try clear hcz12_0
            try clear hcz12_1
            try clear hcz12_10
            try clear hcz12_11
            try clear hcz12_2
            try clear hcz12_3
            try clear hcz12_4
            try clear hcz12_5
            try clear hcz12_6
            try clear hcz12_7
            try clear hcz12_8
            try clear hcz12_9
            try clear hcz14_0
            try clear hcz14_1
            try clear hcz14_10
            try clear hcz14_11
            try clear hcz14_2
            try clear hcz14_3
            try clear hcz14_4
            try clear hcz14_5
            try clear hcz14_6
            try clear hcz14_7
            try clear hcz14_8
            try clear hcz14_9
            try clear hcz16_0
            try clear hcz16_1
            try clear hcz16_10
            try clear hcz16_11
            try clear hcz16_2
            try clear hcz16_3
            try clear hcz16_4
            try clear hcz16_5
            try clear hcz16_6
            try clear hcz16_7
            try clear hcz16_8
            try clear hcz16_9
            try clear hcz18_0
            try clear hcz18_1
            try clear hcz18_10
            try clear hcz18_11
            try clear hcz18_2
            try clear hcz18_3
            try clear hcz18_4
            try clear hcz18_5
            try clear hcz18_6
            try clear hcz18_7
            try clear hcz18_8
            try clear hcz18_9
            try clear hcz19_0
            try clear hcz19_1
            try clear hcz19_10
            try clear hcz19_11
            try clear hcz19_2
            try clear hcz19_3
            try clear hcz19_4
            try clear hcz19_5
            try clear hcz19_6
            try clear hcz19_7
            try clear hcz19_8
            try clear hcz19_9
            try clear hfz12_0
            try clear hfz12_1
            try clear hfz12_10
            try clear hfz12_11
            try clear hfz12_2
            try clear hfz12_3
            try clear hfz12_4
            try clear hfz12_5
            try clear hfz12_6
            try clear hfz12_7
            try clear hfz12_8
            try clear hfz12_9
            try clear hfz14_0
            try clear hfz14_1
            try clear hfz14_10
            try clear hfz14_11
            try clear hfz14_2
            try clear hfz14_3
            try clear hfz14_4
            try clear hfz14_5
            try clear hfz14_6
            try clear hfz14_7
            try clear hfz14_8
            try clear hfz14_9
            try clear hfz16_0
            try clear hfz16_1
            try clear hfz16_10
            try clear hfz16_11
            try clear hfz16_2
            try clear hfz16_3
            try clear hfz16_4
            try clear hfz16_5
            try clear hfz16_6
            try clear hfz16_7
            try clear hfz16_8
            try clear hfz16_9
            try clear hfz18_0
            try clear hfz18_1
            try clear hfz18_10
            try clear hfz18_11
            try clear hfz18_2
            try clear hfz18_3
            try clear hfz18_4
            try clear hfz18_5
            try clear hfz18_6
            try clear hfz18_7
            try clear hfz18_8
            try clear hfz18_9
            try clear hfz19_0
            try clear hfz19_1
            try clear hfz19_10
            try clear hfz19_11
            try clear hfz19_2
            try clear hfz19_3
            try clear hfz19_4
            try clear hfz19_5
            try clear hfz19_6
            try clear hfz19_7
            try clear hfz19_8
            try clear hfz19_9
            try clear p2
            try clear p6
            obtain ⟨x9_2, x51_2, rfl, rfl, HA, HK2, BK253, HB⟩ := hrel
            cases gk with
            | zero => exact absurd HA.out (by simp [clepsydralaw16_AnchorAges.l0])
            | succ k2 =>
              have H := HA.out
              clear HA
              simp only [clepsydralaw16_AnchorAges.l0] at H
              by_cases c21 : x51_2 < (l1.length : Int)
              · rw [if_pos c21] at H
                have c21b0 : decide (x51_2 < (l1.length : Int)) = true := decide_eq_true c21
                clear c21
                by_cases c22 : 0 ≤ x51_2
                · rw [if_pos c22] at H
                  have c22b0 : decide (0 ≤ x51_2) = true := decide_eq_true c22
                  clear c22
                  by_cases c23 : x51_2 < (l1.length : Int)
                  · rw [if_pos c23] at H
                    have c23b0 : decide (x51_2 < (l1.length : Int)) = true := decide_eq_true c23
                    clear c23
                    by_cases c24 : (rd l1 x51_2) < a2
                    · rw [if_pos c24] at H
                      have c24b0 : decide ((rd l1 x51_2) < a2) = true := decide_eq_true c24
                      clear c24
                      have H' := Aside0.mk H
                      clear H
                      have p255 : 0 ≤ (x51_2 : Int) := of_decide_eq_true (by first | (with_reducible assumption) | assumption)
                      have q255 : x51_2 < (l1.length : Int) := of_decide_eq_true (by first | (with_reducible assumption) | assumption)
                      obtain ⟨ad255, e255, hx255_0⟩ := Kd.at_int HR1.out x51_2 p255 q255
                      cases e255
                      replace hx255_0 := (HB.out.cell (World.block_lt_of_cell? w _ hx255_0)).trans hx255_0
                      replace p255 := eq_true p255
                      replace q255 := eq_true q255
                      go_wp2
                      go_roundg k2
                      case measure => have := HJ6.out; have := HK2.out; omega
                      case rel => exact ⟨(wrap64 (x9_2 + 1)), (wrap64 (x51_2 + 1)), (by first | rfl | (simp; done) | (simp [*]; done)), (by first | rfl | (simp; done) | (simp [*]; done)), H', ⟨by have := HJ6.out; have := HK2.out; omega⟩, ⟨by (with_reducible repeat (first | refine blk_drewN ?_ _ | refine blk_drew ?_ | refine blk_alloc ?_ _)); exact BK253.out⟩, ⟨by repeat (first | (with_reducible first | exact HB.out | apply below_alloc | apply pw_below_drewN | apply below_drew1 | refine below_set ?_ GE253.out) | exact HB.out)⟩⟩
                    · rw [if_neg c24] at H
                      have c24b0 : decide ((rd l1 x51_2) < a2) = false := decide_eq_false c24
                      clear c24
                      by_cases c25 : (rd l1 x51_2) > a3
                      · rw [if_pos c25] at H
                        have c25b0 : decide (a3 < (rd l1 x51_2)) = true := decide_eq_true c25
                        clear c25
                        have H' := Aside0.mk H
                        clear H
                        have p255 : 0 ≤ (x51_2 : Int) := of_decide_eq_true (by first | (with_reducible assumption) | assumption)
                        have q255 : x51_2 < (l1.length : Int) := of_decide_eq_true (by first | (with_reducible assumption) | assumption)
                        obtain ⟨ad255, e255, hx255_0⟩ := Kd.at_int HR1.out x51_2 p255 q255
                        cases e255
                        replace hx255_0 := (HB.out.cell (World.block_lt_of_cell? w _ hx255_0)).trans hx255_0
                        replace p255 := eq_true p255
                        replace q255 := eq_true q255
                        go_wp2
                        go_roundg k2
                        case measure => have := HJ6.out; have := HK2.out; omega
                        case rel => exact ⟨(wrap64 (x9_2 + 1)), (wrap64 (x51_2 + 1)), (by first | rfl | (simp; done) | (simp [*]; done)), (by first | rfl | (simp; done) | (simp [*]; done)), H', ⟨by have := HJ6.out; have := HK2.out; omega⟩, ⟨by (with_reducible repeat (first | refine blk_drewN ?_ _ | refine blk_drew ?_ | refine blk_alloc ?_ _)); exact BK253.out⟩, ⟨by repeat (first | (with_reducible first | exact HB.out | apply below_alloc | apply pw_below_drewN | apply below_drew1 | refine below_set ?_ GE253.out) | exact HB.out)⟩⟩
                      · rw [if_neg c25] at H
                        have c25b0 : decide (a3 < (rd l1 x51_2)) = false := decide_eq_false c25
                        clear c25
                        have H' := Aside0.mk H
                        clear H
                        have p255 : 0 ≤ (x51_2 : Int) := of_decide_eq_true (by first | (with_reducible assumption) | assumption)
                        have q255 : x51_2 < (l1.length : Int) := of_decide_eq_true (by first | (with_reducible assumption) | assumption)
                        obtain ⟨ad255, e255, hx255_0⟩ := Kd.at_int HR1.out x51_2 p255 q255
                        cases e255
                        replace hx255_0 := (HB.out.cell (World.block_lt_of_cell? w _ hx255_0)).trans hx255_0
                        replace p255 := eq_true p255
                        replace q255 := eq_true q255
                        go_wp2
                        go_roundg k2
                        case measure => have := HJ6.out; have := HK2.out; omega
                        case rel => exact ⟨(x9_2), (wrap64 (x51_2 + 1)), (by first | rfl | (simp; done) | (simp [*]; done)), (by first | rfl | (simp; done) | (simp [*]; done)), H', ⟨by have := HJ6.out; have := HK2.out; omega⟩, ⟨by (with_reducible repeat (first | refine blk_drewN ?_ _ | refine blk_drew ?_ | refine blk_alloc ?_ _)); exact BK253.out⟩, ⟨by repeat (first | (with_reducible first | exact HB.out | apply below_alloc | apply pw_below_drewN | apply below_drew1 | refine below_set ?_ GE253.out) | exact HB.out)⟩⟩
                  · rw [if_neg c23] at H
                    exact absurd H (by simp)
                · rw [if_neg c22] at H
                  exact absurd H (by simp)
              · rw [if_neg c21] at H
                have c21b0 : decide (x51_2 < (l1.length : Int)) = false := decide_eq_false c21
                clear c21
                by_cases c26 : x9_2 > a0_1
                · rw [if_pos c26] at H
                  have c26b0 : decide (a0_1 < x9_2) = true := decide_eq_true c26
                  clear c26
                  obtain rfl := Option.some.inj H
                  have hcz27_0 : wr.cell? ⟨gb253, 0, none⟩ = some (.int .i64 a0_0) := (blk_cell BK253.out 0).trans rfl
                  have hcz27_1 : wr.cell? ⟨gb253, 1, none⟩ = some (.int .i64 a0_1) := (blk_cell BK253.out 1).trans rfl
                  have hcz27_2 : wr.cell? ⟨gb253, 2, none⟩ = some (.int .i64 a0_2) := (blk_cell BK253.out 2).trans rfl
                  have hcz27_3 : wr.cell? ⟨gb253, 3, none⟩ = some (.int .i64 a0_3) := (blk_cell BK253.out 3).trans rfl
                  have hcz27_4 : wr.cell? ⟨gb253, 4, none⟩ = some (.int .i64 a0_4) := (blk_cell BK253.out 4).trans rfl
                  have hcz27_5 : wr.cell? ⟨gb253, 5, none⟩ = some (.int .i64 a0_5) := (blk_cell BK253.out 5).trans rfl
                  have hcz27_6 : wr.cell? ⟨gb253, 6, none⟩ = some (.int .i64 a0_6) := (blk_cell BK253.out 6).trans rfl
                  have hcz27_7 : wr.cell? ⟨gb253, 7, none⟩ = some (.int .i64 a0_7) := (blk_cell BK253.out 7).trans rfl
                  have hcz27_8 : wr.cell? ⟨gb253, 8, none⟩ = some (.int .i64 a0_8) := (blk_cell BK253.out 8).trans rfl
                  have hcz27_9 : wr.cell? ⟨gb253, 9, none⟩ = some (.int .i64 a0_9) := (blk_cell BK253.out 9).trans rfl
                  have hcz27_10 : wr.cell? ⟨gb253, 10, none⟩ = some (.int .i64 a0_10) := (blk_cell BK253.out 10).trans rfl
                  have hcz27_11 : wr.cell? ⟨gb253, 11, none⟩ = some (.int .i64 a0_11) := (blk_cell BK253.out 11).trans rfl
                  have hfz27_0 := blk_frozen BK253.out 0
                  have hfz27_1 := blk_frozen BK253.out 1
                  have hfz27_2 := blk_frozen BK253.out 2
                  have hfz27_3 := blk_frozen BK253.out 3
                  have hfz27_4 := blk_frozen BK253.out 4
                  have hfz27_5 := blk_frozen BK253.out 5
                  have hfz27_6 := blk_frozen BK253.out 6
                  have hfz27_7 := blk_frozen BK253.out 7
                  have hfz27_8 := blk_frozen BK253.out 8
                  have hfz27_9 := blk_frozen BK253.out 9
                  have hfz27_10 := blk_frozen BK253.out 10
                  have hfz27_11 := blk_frozen BK253.out 11
                  go_wp2
                  go_ret
                  exact ⟨by first | rfl | (simp [errW_none, errW_some] <;> rfl) | (simp [*, errW_none, errW_some] <;> rfl), by repeat (first | (with_reducible first | exact HB.out | apply below_alloc | apply pw_below_drewN | apply below_drew1 | refine below_set ?_ GE253.out) | exact HB.out)⟩
                · rw [if_neg c26] at H
                  have c26b0 : decide (a0_1 < x9_2) = false := decide_eq_false c26
                  clear c26
                  replace H := Option.bind_eq_some_iff.mp H
                  obtain ⟨⟨t256, t257⟩, A280, H⟩ := H
                  replace H : (if t257 = true then (if (wrap64 (a2 + 1)) ≤ t256 then (some (decide (t256 ≤ (wrap64 (a3 + 1))))) else (some false)) else (some false)) = some r := H
                  have A28 := Aside0.mk A280
                  clear A280
                  by_cases c29 : t257 = true
                  · subst c29
                    have H1 : (if (wrap64 (a2 + 1)) ≤ t256 then (some (decide (t256 ≤ (wrap64 (a3 + 1))))) else (some false)) = some r := by rw [if_pos rfl] at H; exact H
                    clear H
                    have H := H1
                    clear H1
                    by_cases c30 : (wrap64 (a2 + 1)) ≤ t256
                    · rw [if_pos c30] at H
                      have c30b0 : decide ((wrap64 (a2 + 1)) ≤ t256) = true := decide_eq_true c30
                      clear c30
                      obtain rfl := Option.some.inj H
                      have hcz31_0 : wr.cell? ⟨gb253, 0, none⟩ = some (.int .i64 a0_0) := (blk_cell BK253.out 0).trans rfl
                      have hcz31_1 : wr.cell? ⟨gb253, 1, none⟩ = some (.int .i64 a0_1) := (blk_cell BK253.out 1).trans rfl
                      have hcz31_2 : wr.cell? ⟨gb253, 2, none⟩ = some (.int .i64 a0_2) := (blk_cell BK253.out 2).trans rfl
                      have hcz31_3 : wr.cell? ⟨gb253, 3, none⟩ = some (.int .i64 a0_3) := (blk_cell BK253.out 3).trans rfl
                      have hcz31_4 : wr.cell? ⟨gb253, 4, none⟩ = some (.int .i64 a0_4) := (blk_cell BK253.out 4).trans rfl
                      have hcz31_5 : wr.cell? ⟨gb253, 5, none⟩ = some (.int .i64 a0_5) := (blk_cell BK253.out 5).trans rfl
                      have hcz31_6 : wr.cell? ⟨gb253, 6, none⟩ = some (.int .i64 a0_6) := (blk_cell BK253.out 6).trans rfl
                      have hcz31_7 : wr.cell? ⟨gb253, 7, none⟩ = some (.int .i64 a0_7) := (blk_cell BK253.out 7).trans rfl
                      have hcz31_8 : wr.cell? ⟨gb253, 8, none⟩ = some (.int .i64 a0_8) := (blk_cell BK253.out 8).trans rfl
                      have hcz31_9 : wr.cell? ⟨gb253, 9, none⟩ = some (.int .i64 a0_9) := (blk_cell BK253.out 9).trans rfl
                      have hcz31_10 : wr.cell? ⟨gb253, 10, none⟩ = some (.int .i64 a0_10) := (blk_cell BK253.out 10).trans rfl
                      have hcz31_11 : wr.cell? ⟨gb253, 11, none⟩ = some (.int .i64 a0_11) := (blk_cell BK253.out 11).trans rfl
                      have hfz31_0 := blk_frozen BK253.out 0
                      have hfz31_1 := blk_frozen BK253.out 1
                      have hfz31_2 := blk_frozen BK253.out 2
                      have hfz31_3 := blk_frozen BK253.out 3
                      have hfz31_4 := blk_frozen BK253.out 4
                      have hfz31_5 := blk_frozen BK253.out 5
                      have hfz31_6 := blk_frozen BK253.out 6
                      have hfz31_7 := blk_frozen BK253.out 7
                      have hfz31_8 := blk_frozen BK253.out 8
                      have hfz31_9 := blk_frozen BK253.out 9
                      have hfz31_10 := blk_frozen BK253.out 10
                      have hfz31_11 := blk_frozen BK253.out 11
                      go_wp2_with (first | ((with_reducible refine gate_callee (f := 24) rfl ?_); refine goesL_ (some 73) rfl rfl Try.func24 (by kernel_rfl) rfl #[.agg #[.int .i64 a0_0, .int .i64 a0_1, .int .i64 a0_2, .int .i64 a0_3, .int .i64 a0_4, .int .i64 a0_5, .int .i64 a0_6, .int .i64 a0_7, .int .i64 a0_8, .int .i64 a0_9, .int .i64 a0_10, .int .i64 a0_11], .slice A1 l1.length c1] rfl (by (try simp only [List.map_toArray, List.map_cons, List.map_nil]); first | done | rfl | (simp only [List.length_drop, List.length_take]; rfl)) ?_; (with_reducible refine (anchor_Held.calls k2 a0_0 a0_1 a0_2 a0_3 a0_4 a0_5 a0_6 a0_7 a0_8 a0_9 a0_10 a0_11 _ _ l1 t256 true _ ?side1 ?side2 A28.out).mono ?_); (case side1 => repeat (first | exact (Kd.C_below HR1.out HB.out) | (with_reducible refine Kd.C_alloc ?_ _) | (with_reducible refine Kd.C_drewN ?_ _) | (with_reducible refine Kd.C_drew ?_))); (case side2 => exact HC1.out); rintro e w32 ⟨rfl, hb⟩; refine ⟨_, rfl, ?_⟩; have n0_ := Aside0.mk (blk_below (g := gb253) (o := .cells #[.int .i64 a0_0, .int .i64 a0_1, .int .i64 a0_2, .int .i64 a0_3, .int .i64 a0_4, .int .i64 a0_5, .int .i64 a0_6, .int .i64 a0_7, .int .i64 a0_8, .int .i64 a0_9, .int .i64 a0_10, .int .i64 a0_11] 23 (0, 0)) (by (with_reducible repeat (first | refine blk_drewN ?_ _ | refine blk_drew ?_ | refine blk_alloc ?_ _)); exact BK253.out) hb); have n1_ := Aside0.mk (below_step (by repeat (first | (with_reducible first | exact HB.out | apply below_alloc | apply pw_below_drewN | apply below_drew1 | refine below_set ?_ GE253.out) | exact HB.out)) hb); clear BK253; clear HB; have BK253 := n0_; have HB := n1_; clear n0_ n1_; (try clear hb); (try clear hb2); (try clear hk); (try clear hi)))
                      go_ret
                      exact ⟨by first | rfl | (simp [errW_none, errW_some] <;> rfl) | (simp [*, errW_none, errW_some] <;> rfl), by repeat (first | (with_reducible first | exact HB.out | apply below_alloc | apply pw_below_drewN | apply below_drew1 | refine below_set ?_ GE253.out) | exact HB.out)⟩
                    · rw [if_neg c30] at H
                      have c30b0 : decide ((wrap64 (a2 + 1)) ≤ t256) = false := decide_eq_false c30
                      clear c30
                      obtain rfl := Option.some.inj H
                      have hcz33_0 : wr.cell? ⟨gb253, 0, none⟩ = some (.int .i64 a0_0) := (blk_cell BK253.out 0).trans rfl
                      have hcz33_1 : wr.cell? ⟨gb253, 1, none⟩ = some (.int .i64 a0_1) := (blk_cell BK253.out 1).trans rfl
                      have hcz33_2 : wr.cell? ⟨gb253, 2, none⟩ = some (.int .i64 a0_2) := (blk_cell BK253.out 2).trans rfl
                      have hcz33_3 : wr.cell? ⟨gb253, 3, none⟩ = some (.int .i64 a0_3) := (blk_cell BK253.out 3).trans rfl
                      have hcz33_4 : wr.cell? ⟨gb253, 4, none⟩ = some (.int .i64 a0_4) := (blk_cell BK253.out 4).trans rfl
                      have hcz33_5 : wr.cell? ⟨gb253, 5, none⟩ = some (.int .i64 a0_5) := (blk_cell BK253.out 5).trans rfl
                      have hcz33_6 : wr.cell? ⟨gb253, 6, none⟩ = some (.int .i64 a0_6) := (blk_cell BK253.out 6).trans rfl
                      have hcz33_7 : wr.cell? ⟨gb253, 7, none⟩ = some (.int .i64 a0_7) := (blk_cell BK253.out 7).trans rfl
                      have hcz33_8 : wr.cell? ⟨gb253, 8, none⟩ = some (.int .i64 a0_8) := (blk_cell BK253.out 8).trans rfl
                      have hcz33_9 : wr.cell? ⟨gb253, 9, none⟩ = some (.int .i64 a0_9) := (blk_cell BK253.out 9).trans rfl
                      have hcz33_10 : wr.cell? ⟨gb253, 10, none⟩ = some (.int .i64 a0_10) := (blk_cell BK253.out 10).trans rfl
                      have hcz33_11 : wr.cell? ⟨gb253, 11, none⟩ = some (.int .i64 a0_11) := (blk_cell BK253.out 11).trans rfl
                      have hfz33_0 := blk_frozen BK253.out 0
                      have hfz33_1 := blk_frozen BK253.out 1
                      have hfz33_2 := blk_frozen BK253.out 2
                      have hfz33_3 := blk_frozen BK253.out 3
                      have hfz33_4 := blk_frozen BK253.out 4
                      have hfz33_5 := blk_frozen BK253.out 5
                      have hfz33_6 := blk_frozen BK253.out 6
                      have hfz33_7 := blk_frozen BK253.out 7
                      have hfz33_8 := blk_frozen BK253.out 8
                      have hfz33_9 := blk_frozen BK253.out 9
                      have hfz33_10 := blk_frozen BK253.out 10
                      have hfz33_11 := blk_frozen BK253.out 11
                      go_wp2_with (first | ((with_reducible refine gate_callee (f := 24) rfl ?_); refine goesL_ (some 73) rfl rfl Try.func24 (by kernel_rfl) rfl #[.agg #[.int .i64 a0_0, .int .i64 a0_1, .int .i64 a0_2, .int .i64 a0_3, .int .i64 a0_4, .int .i64 a0_5, .int .i64 a0_6, .int .i64 a0_7, .int .i64 a0_8, .int .i64 a0_9, .int .i64 a0_10, .int .i64 a0_11], .slice A1 l1.length c1] rfl (by (try simp only [List.map_toArray, List.map_cons, List.map_nil]); first | done | rfl | (simp only [List.length_drop, List.length_take]; rfl)) ?_; (with_reducible refine (anchor_Held.calls k2 a0_0 a0_1 a0_2 a0_3 a0_4 a0_5 a0_6 a0_7 a0_8 a0_9 a0_10 a0_11 _ _ l1 t256 true _ ?side1 ?side2 A28.out).mono ?_); (case side1 => repeat (first | exact (Kd.C_below HR1.out HB.out) | (with_reducible refine Kd.C_alloc ?_ _) | (with_reducible refine Kd.C_drewN ?_ _) | (with_reducible refine Kd.C_drew ?_))); (case side2 => exact HC1.out); rintro e w34 ⟨rfl, hb⟩; refine ⟨_, rfl, ?_⟩; have n0_ := Aside0.mk (blk_below (g := gb253) (o := .cells #[.int .i64 a0_0, .int .i64 a0_1, .int .i64 a0_2, .int .i64 a0_3, .int .i64 a0_4, .int .i64 a0_5, .int .i64 a0_6, .int .i64 a0_7, .int .i64 a0_8, .int .i64 a0_9, .int .i64 a0_10, .int .i64 a0_11] 23 (0, 0)) (by (with_reducible repeat (first | refine blk_drewN ?_ _ | refine blk_drew ?_ | refine blk_alloc ?_ _)); exact BK253.out) hb); have n1_ := Aside0.mk (below_step (by repeat (first | (with_reducible first | exact HB.out | apply below_alloc | apply pw_below_drewN | apply below_drew1 | refine below_set ?_ GE253.out) | exact HB.out)) hb); clear BK253; clear HB; have BK253 := n0_; have HB := n1_; clear n0_ n1_; (try clear hb); (try clear hb2); (try clear hk); (try clear hi)))
                      go_ret
                      exact ⟨by first | rfl | (simp [errW_none, errW_some] <;> rfl) | (simp [*, errW_none, errW_some] <;> rfl), by repeat (first | (with_reducible first | exact HB.out | apply below_alloc | apply pw_below_drewN | apply below_drew1 | refine below_set ?_ GE253.out) | exact HB.out)⟩
                  · replace c29 := Bool.eq_false_iff.mpr c29
                    subst c29
                    have H1 : (some false) = some r := by rw [if_neg (show ¬ (false = true) by decide)] at H; exact H
                    clear H
                    have H := H1
                    clear H1
                    obtain rfl := Option.some.inj H
                    have hcz35_0 : wr.cell? ⟨gb253, 0, none⟩ = some (.int .i64 a0_0) := (blk_cell BK253.out 0).trans rfl
                    have hcz35_1 : wr.cell? ⟨gb253, 1, none⟩ = some (.int .i64 a0_1) := (blk_cell BK253.out 1).trans rfl
                    have hcz35_2 : wr.cell? ⟨gb253, 2, none⟩ = some (.int .i64 a0_2) := (blk_cell BK253.out 2).trans rfl
                    have hcz35_3 : wr.cell? ⟨gb253, 3, none⟩ = some (.int .i64 a0_3) := (blk_cell BK253.out 3).trans rfl
                    have hcz35_4 : wr.cell? ⟨gb253, 4, none⟩ = some (.int .i64 a0_4) := (blk_cell BK253.out 4).trans rfl
                    have hcz35_5 : wr.cell? ⟨gb253, 5, none⟩ = some (.int .i64 a0_5) := (blk_cell BK253.out 5).trans rfl
                    have hcz35_6 : wr.cell? ⟨gb253, 6, none⟩ = some (.int .i64 a0_6) := (blk_cell BK253.out 6).trans rfl
                    have hcz35_7 : wr.cell? ⟨gb253, 7, none⟩ = some (.int .i64 a0_7) := (blk_cell BK253.out 7).trans rfl
                    have hcz35_8 : wr.cell? ⟨gb253, 8, none⟩ = some (.int .i64 a0_8) := (blk_cell BK253.out 8).trans rfl
                    have hcz35_9 : wr.cell? ⟨gb253, 9, none⟩ = some (.int .i64 a0_9) := (blk_cell BK253.out 9).trans rfl
                    have hcz35_10 : wr.cell? ⟨gb253, 10, none⟩ = some (.int .i64 a0_10) := (blk_cell BK253.out 10).trans rfl
                    have hcz35_11 : wr.cell? ⟨gb253, 11, none⟩ = some (.int .i64 a0_11) := (blk_cell BK253.out 11).trans rfl
                    have hfz35_0 := blk_frozen BK253.out 0
                    have hfz35_1 := blk_frozen BK253.out 1
                    have hfz35_2 := blk_frozen BK253.out 2
                    have hfz35_3 := blk_frozen BK253.out 3
                    have hfz35_4 := blk_frozen BK253.out 4
                    have hfz35_5 := blk_frozen BK253.out 5
                    have hfz35_6 := blk_frozen BK253.out 6
                    have hfz35_7 := blk_frozen BK253.out 7
                    have hfz35_8 := blk_frozen BK253.out 8
                    have hfz35_9 := blk_frozen BK253.out 9
                    have hfz35_10 := blk_frozen BK253.out 10
                    have hfz35_11 := blk_frozen BK253.out 11
                    go_wp2_with (first | ((with_reducible refine gate_callee (f := 24) rfl ?_); refine goesL_ (some 73) rfl rfl Try.func24 (by kernel_rfl) rfl #[.agg #[.int .i64 a0_0, .int .i64 a0_1, .int .i64 a0_2, .int .i64 a0_3, .int .i64 a0_4, .int .i64 a0_5, .int .i64 a0_6, .int .i64 a0_7, .int .i64 a0_8, .int .i64 a0_9, .int .i64 a0_10, .int .i64 a0_11], .slice A1 l1.length c1] rfl (by (try simp only [List.map_toArray, List.map_cons, List.map_nil]); first | done | rfl | (simp only [List.length_drop, List.length_take]; rfl)) ?_; (with_reducible refine (anchor_Held.calls k2 a0_0 a0_1 a0_2 a0_3 a0_4 a0_5 a0_6 a0_7 a0_8 a0_9 a0_10 a0_11 _ _ l1 t256 false _ ?side1 ?side2 A28.out).mono ?_); (case side1 => repeat (first | exact (Kd.C_below HR1.out HB.out) | (with_reducible refine Kd.C_alloc ?_ _) | (with_reducible refine Kd.C_drewN ?_ _) | (with_reducible refine Kd.C_drew ?_))); (case side2 => exact HC1.out); rintro e w36 ⟨rfl, hb⟩; refine ⟨_, rfl, ?_⟩; have n0_ := Aside0.mk (blk_below (g := gb253) (o := .cells #[.int .i64 a0_0, .int .i64 a0_1, .int .i64 a0_2, .int .i64 a0_3, .int .i64 a0_4, .int .i64 a0_5, .int .i64 a0_6, .int .i64 a0_7, .int .i64 a0_8, .int .i64 a0_9, .int .i64 a0_10, .int .i64 a0_11] 23 (0, 0)) (by (with_reducible repeat (first | refine blk_drewN ?_ _ | refine blk_drew ?_ | refine blk_alloc ?_ _)); exact BK253.out) hb); have n1_ := Aside0.mk (below_step (by repeat (first | (with_reducible first | exact HB.out | apply below_alloc | apply pw_below_drewN | apply below_drew1 | refine below_set ?_ GE253.out) | exact HB.out)) hb); clear BK253; clear HB; have BK253 := n0_; have HB := n1_; clear n0_ n1_; (try clear hb); (try clear hb2); (try clear hk); (try clear hi)))
                    go_ret
                    exact ⟨by first | rfl | (simp [errW_none, errW_some] <;> rfl) | (simp [*, errW_none, errW_some] <;> rfl), by repeat (first | (with_reducible first | exact HB.out | apply below_alloc | apply pw_below_drewN | apply below_drew1 | refine below_set ?_ GE253.out) | exact HB.out)⟩
  · replace c6 := Bool.eq_false_iff.mpr c6
    subst c6
    have H1 : (some false) = some r := by rw [if_neg (show ¬ (false = true) by decide)] at H; exact H
    clear H
    have H := H1
    clear H1
    obtain rfl := Option.some.inj H
    go_enter Try.func8, Try.ntmps8
    go_wp2_with (first | ((with_reducible refine gate_dst (N := 4) rfl ?_); (try (refine gate_guard (by rfl) ?_; dsimp only)); refine box_event ?hg (N := 4) ?hd (cs := #[.int .i64 a0_0, .int .i64 a0_1, .int .i64 a0_2, .int .i64 a0_3, .int .i64 a0_4, .int .i64 a0_5, .int .i64 a0_6, .int .i64 a0_7, .int .i64 a0_8, .int .i64 a0_9, .int .i64 a0_10, .int .i64 a0_11]) (t := 23) ?hr ?_; (case hd => rfl); (case hg => rfl); (case hr => first | (go_simp; done) | (go_simp; rfl)); intro gb253 hg w37 hbox hb; have n0_ := Aside0.mk (below_step (by repeat (first | (with_reducible first | exact HB.out | apply below_alloc | apply pw_below_drewN | apply below_drew1) | exact HB.out)) hb); have n1_ := Aside0.mk (hbox); have n2_ := Aside0.mk ((by rw [hg]; exact (below_size (by repeat (first | (with_reducible first | exact HB.out | apply below_alloc | apply pw_below_drewN | apply below_drew1) | exact HB.out))) : w.heap.size ≤ gb253)); have n3_ := Aside0.mk ((by rw [hg]; exact (below_size (by repeat (first | (with_reducible first | exact HB.out | apply below_alloc | apply pw_below_drewN | apply below_drew1) | exact HB.out))) : w.heap.size ≤ gb253)); clear HB; have HB := n0_; have BK253 := n1_; have GW253 := n2_; have GE253 := n3_; clear n0_ n1_ n2_ n3_; clear hb hbox hg) | ((with_reducible refine gate_callee (f := 23) rfl ?_); refine goesL_ (some 14) rfl rfl Try.func23 (by kernel_rfl) rfl #[] rfl (by (try simp only [List.map_toArray, List.map_cons, List.map_nil]); first | done | rfl | (simp only [List.length_drop, List.length_take]; rfl)) ?_; (with_reducible refine (clepsydralaw16_alive.calls k  false _ A5.out).mono ?_); rintro e w38 ⟨rfl, hb⟩; refine ⟨_, rfl, ?_⟩; have n0_ := Aside0.mk (blk_below (g := gb253) (o := .cells #[.int .i64 a0_0, .int .i64 a0_1, .int .i64 a0_2, .int .i64 a0_3, .int .i64 a0_4, .int .i64 a0_5, .int .i64 a0_6, .int .i64 a0_7, .int .i64 a0_8, .int .i64 a0_9, .int .i64 a0_10, .int .i64 a0_11] 23 (0, 0)) (by (with_reducible repeat (first | refine blk_drewN ?_ _ | refine blk_drew ?_ | refine blk_alloc ?_ _)); exact BK253.out) hb); have n1_ := Aside0.mk (below_step (by repeat (first | (with_reducible first | exact HB.out | apply below_alloc | apply pw_below_drewN | apply below_drew1 | refine below_set ?_ GE253.out) | exact HB.out)) hb); clear BK253; clear HB; have BK253 := n0_; have HB := n1_; clear n0_ n1_; (try clear hb); (try clear hb2); (try clear hk); (try clear hi)))
    go_ret
    exact ⟨by first | rfl | (simp [errW_none, errW_some] <;> rfl) | (simp [*, errW_none, errW_some] <;> rfl), by repeat (first | (with_reducible first | exact HB.out | apply below_alloc | apply pw_below_drewN | apply below_drew1 | refine below_set ?_ GE253.out) | exact HB.out)⟩

/-! ### clepsydraref01_Clip: function 60 -/
def clepsydraref01_Clip.f (a0 : Int) : Option (Int) := if a0 > 2305843009213693952 then (some 2305843009213693952) else (if a0 < (-2305843009213693952) then (some (-2305843009213693952)) else (some a0))
set_option maxHeartbeats 8000000 in
set_option maxRecDepth 100000 in
theorem clepsydraref01_Clip.calls (a0 : Int) (r : Int) (w : World) (h : clepsydraref01_Clip.f a0 = some r) :
    Calls Try.prog 60 #[.int .i64 a0] w fun e w' => e = .returned (.int .i64 r) ∧ Drawn0 w w' := by
  have H : (if a0 > 2305843009213693952 then (some 2305843009213693952) else (if a0 < (-2305843009213693952) then (some (-2305843009213693952)) else (some a0))) = some r := h
  clear h
  by_cases c2 : a0 > 2305843009213693952
  · rw [if_pos c2] at H
    have c2b0 : decide (2305843009213693952 < a0) = true := decide_eq_true c2
    clear c2
    obtain rfl := Option.some.inj H
    go_enter Try.func60, Try.ntmps60
    go_wp2
    go_ret
    exact ⟨by first | rfl | (simp; done) | (simp [*]; done), by repeat (first | exact Drawn0.refl _ | apply Drawn0.step)⟩
  · rw [if_neg c2] at H
    have c2b0 : decide (2305843009213693952 < a0) = false := decide_eq_false c2
    clear c2
    by_cases c3 : a0 < (-2305843009213693952)
    · rw [if_pos c3] at H
      have c3b0 : decide (a0 < (-2305843009213693952)) = true := decide_eq_true c3
      clear c3
      obtain rfl := Option.some.inj H
      go_enter Try.func60, Try.ntmps60
      go_wp2
      go_ret
      exact ⟨by first | rfl | (simp; done) | (simp [*]; done), by repeat (first | exact Drawn0.refl _ | apply Drawn0.step)⟩
    · rw [if_neg c3] at H
      have c3b0 : decide (a0 < (-2305843009213693952)) = false := decide_eq_false c3
      clear c3
      obtain rfl := Option.some.inj H
      go_enter Try.func60, Try.ntmps60
      go_wp2
      go_ret
      exact ⟨by first | rfl | (simp; done) | (simp [*]; done), by repeat (first | exact Drawn0.refl _ | apply Drawn0.step)⟩

/-! ### clepsydraref01_Sub: function 42 -/
def clepsydraref01_Sub.f (a0 : Int) (a1 : Int) : Option (Int) := (clepsydraref01_Clip.f a0).bind fun t258 => ((clepsydraref01_Clip.f a1).bind fun t259 => ((clepsydraref01_Clip.f (wrap64 (t258 - t259))).bind fun t260 => (some t260)))
set_option maxHeartbeats 8000000 in
set_option maxRecDepth 100000 in
theorem clepsydraref01_Sub.calls (a0 : Int) (a1 : Int) (r : Int) (w : World) (h : clepsydraref01_Sub.f a0 a1 = some r) :
    Calls Try.prog 42 #[.int .i64 a0, .int .i64 a1] w fun e w' => e = .returned (.int .i64 r) ∧ Drawn0 w w' := by
  have H : ((clepsydraref01_Clip.f a0).bind fun t258 => ((clepsydraref01_Clip.f a1).bind fun t259 => ((clepsydraref01_Clip.f (wrap64 (t258 - t259))).bind fun t260 => (some t260)))) = some r := h
  clear h
  replace H := Option.bind_eq_some_iff.mp H
  obtain ⟨t258, A30, H⟩ := H
  replace H : ((clepsydraref01_Clip.f a1).bind fun t259 => ((clepsydraref01_Clip.f (wrap64 (t258 - t259))).bind fun t260 => (some t260))) = some r := H
  have A3 := Aside0.mk A30
  clear A30
  replace H := Option.bind_eq_some_iff.mp H
  obtain ⟨t259, A40, H⟩ := H
  replace H : ((clepsydraref01_Clip.f (wrap64 (t258 - t259))).bind fun t260 => (some t260)) = some r := H
  have A4 := Aside0.mk A40
  clear A40
  replace H := Option.bind_eq_some_iff.mp H
  obtain ⟨t260, A50, H⟩ := H
  replace H : (some t260) = some r := H
  have A5 := Aside0.mk A50
  clear A50
  obtain rfl := Option.some.inj H
  go_enter Try.func42, Try.ntmps42
  go_wp2_with (first | ((with_reducible refine gate_callee (f := 60) rfl ?_); refine goesL_ (some 6) rfl rfl Try.func60 (by kernel_rfl) rfl #[.int .i64 a0] rfl (by (try simp only [List.map_toArray, List.map_cons, List.map_nil]); first | done | rfl | (simp only [List.length_drop, List.length_take]; rfl)) ?_; (with_reducible refine (clepsydraref01_Clip.calls a0 t258 _ A3.out).mono ?_); rintro e w' ⟨rfl, ⟨nd, rfl⟩⟩; refine ⟨_, rfl, ?_⟩) | ((with_reducible refine gate_callee (f := 60) rfl ?_); refine goesL_ (some 8) rfl rfl Try.func60 (by kernel_rfl) rfl #[.int .i64 a1] rfl (by (try simp only [List.map_toArray, List.map_cons, List.map_nil]); first | done | rfl | (simp only [List.length_drop, List.length_take]; rfl)) ?_; (with_reducible refine (clepsydraref01_Clip.calls a1 t259 _ A4.out).mono ?_); rintro e w' ⟨rfl, ⟨nd, rfl⟩⟩; refine ⟨_, rfl, ?_⟩) | ((with_reducible refine gate_callee (f := 60) rfl ?_); refine goesL_ (some 10) rfl rfl Try.func60 (by kernel_rfl) rfl #[.int .i64 (wrap64 (t258 - t259))] rfl (by (try simp only [List.map_toArray, List.map_cons, List.map_nil]); first | done | rfl | (simp only [List.length_drop, List.length_take]; rfl)) ?_; (with_reducible refine (clepsydraref01_Clip.calls (wrap64 (t258 - t259)) t260 _ A5.out).mono ?_); rintro e w' ⟨rfl, ⟨nd, rfl⟩⟩; refine ⟨_, rfl, ?_⟩))
  go_ret
  exact ⟨by first | rfl | (simp; done) | (simp [*]; done), by repeat (first | exact Drawn0.refl _ | apply Drawn0.step)⟩

end Go.Proofs.Ytaiggeogiolbnaa.R
