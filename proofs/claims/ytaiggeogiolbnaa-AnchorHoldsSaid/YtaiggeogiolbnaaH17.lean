-- Printed.
import Derived.Test.YtaiggeogiolbnaaH0
import Derived.Test.YtaiggeogiolbnaaH11
import Derived.Test.YtaiggeogiolbnaaH12
import Derived.Test.YtaiggeogiolbnaaH13
import Derived.Test.YtaiggeogiolbnaaH15
import Derived.Test.YtaiggeogiolbnaaH16
namespace Go.Proofs.Ytaiggeogiolbnaa.H
open Go.RowKit Go.Proofs.YtaiggeogiolbnaaW.PrintWords Go.Proofs.YtaiggeogiolbnaaW.PrintLast Go.Proofs.YtaiggeogiolbnaaW.PrintMore
attribute [local go_sem] max2_int min2_int max_two min_two max_three min_three max_four min_four   -- for this text's walks alone
set_option linter.unusedVariables false
set_option linter.unusedSimpArgs false

/-! AnchorHolds -/
mutual
def clepsydralaw16_AnchorHolds.j0 : Nat → Int → List (S66) → List (S33) → Bool → Int → Int → Int → Int → Int → Int → Int → Int → Int → Int → Int → Int → Option (Bool)
  | 0, _, _, _, _, _, _, _, _, _, _, _, _, _, _, _, _ => none
  | k + 1, x1, x2, x3, x50, x334000, x334001, x334002, x334003, x334004, x334005, x334006, x334007, x334008, x334009, x334010, x334011 => if x50 = true then (some true) else ((some (([] : List (S33)) : List (S33))).bind fun y336 => (if y336.length + x3.length < 8796093022208 then (clepsydralaw16_AnchorHolds.l0 k x1 (y336 ++ x3) x2 (x2.length : Int) 0 x334000 x334001 x334002 x334003 x334004 x334005 x334006 x334007 x334008 x334009 x334010 x334011) else (none)))
def clepsydralaw16_AnchorHolds.l0 : Nat → Int → List (S33) → List (S66) → Int → Int → Int → Int → Int → Int → Int → Int → Int → Int → Int → Int → Int → Int → Option (Bool)
  | 0, _, _, _, _, _, _, _, _, _, _, _, _, _, _, _, _, _ => none
  | k + 1, x1, x9, x54, x55, x56, x334000, x334001, x334002, x334003, x334004, x334005, x334006, x334007, x334008, x334009, x334010, x334011 => if x56 < x55 then (if 0 ≤ x56 then (if x56 < (x54.length : Int) then (if ((rd_T66 x54 x56).f0) > x334007 then (clepsydralaw16_AnchorHolds.j2 k x1 x9 x54 x55 x56 true x334000 x334001 x334002 x334003 x334004 x334005 x334006 x334007 x334008 x334009 x334010 x334011 ((rd_T66 x54 x56).f0) ((rd_T66 x54 x56).f1) ((rd_T66 x54 x56).f2)) else (if ((rd_T66 x54 x56).f0) < (wrap64 (-x334007)) then (clepsydralaw16_AnchorHolds.j2 k x1 x9 x54 x55 x56 true x334000 x334001 x334002 x334003 x334004 x334005 x334006 x334007 x334008 x334009 x334010 x334011 ((rd_T66 x54 x56).f0) ((rd_T66 x54 x56).f1) ((rd_T66 x54 x56).f2)) else (if ((rd_T66 x54 x56).f1) > x334005 then (clepsydralaw16_AnchorHolds.j2 k x1 x9 x54 x55 x56 true x334000 x334001 x334002 x334003 x334004 x334005 x334006 x334007 x334008 x334009 x334010 x334011 ((rd_T66 x54 x56).f0) ((rd_T66 x54 x56).f1) ((rd_T66 x54 x56).f2)) else (if ((rd_T66 x54 x56).f1) < (wrap64 (x334005 - x334006)) then (clepsydralaw16_AnchorHolds.j2 k x1 x9 x54 x55 x56 true x334000 x334001 x334002 x334003 x334004 x334005 x334006 x334007 x334008 x334009 x334010 x334011 ((rd_T66 x54 x56).f0) ((rd_T66 x54 x56).f1) ((rd_T66 x54 x56).f2)) else (if ((rd_T66 x54 x56).f2) > x334004 then (clepsydralaw16_AnchorHolds.j2 k x1 x9 x54 x55 x56 true x334000 x334001 x334002 x334003 x334004 x334005 x334006 x334007 x334008 x334009 x334010 x334011 ((rd_T66 x54 x56).f0) ((rd_T66 x54 x56).f1) ((rd_T66 x54 x56).f2)) else (clepsydralaw16_AnchorHolds.j2 k x1 x9 x54 x55 x56 (decide (((rd_T66 x54 x56).f2) < (wrap64 (-x334004)))) x334000 x334001 x334002 x334003 x334004 x334005 x334006 x334007 x334008 x334009 x334010 x334011 ((rd_T66 x54 x56).f0) ((rd_T66 x54 x56).f1) ((rd_T66 x54 x56).f2))))))) else (none)) else (none)) else ((anchor_Fuse.f k x334000 x334001 x334002 x334003 x334004 x334005 x334006 x334007 x334008 x334009 x334010 x334011 x9).bind fun bt342 => (if bt342.2.2 = true then (if bt342.1 ≤ (wrap64 (x1 + x334003)) then (if (wrap64 (x1 + x334003)) ≤ bt342.2.1 then ((limit_Hop.f k x334000 x334001 x334002 x334003 x334004 x334005 x334006 x334007 x334008 x334009 x334010 x334011).bind fun t346 => (some (decide ((wrap64 (bt342.2.1 - bt342.1)) ≤ (wrap64 ((wrap64 (2 * x334007)) + t346)))))) else (some false)) else (some false)) else (some false)))
def clepsydralaw16_AnchorHolds.j2 : Nat → Int → List (S33) → List (S66) → Int → Int → Bool → Int → Int → Int → Int → Int → Int → Int → Int → Int → Int → Int → Int → Int → Int → Int → Option (Bool)
  | 0, _, _, _, _, _, _, _, _, _, _, _, _, _, _, _, _, _, _, _, _, _ => none
  | k + 1, x1, x9, x54, x55, x56, x104, x334000, x334001, x334002, x334003, x334004, x334005, x334006, x334007, x334008, x334009, x334010, x334011, x349000, x349001, x349002 => if x104 = true then (some true) else ((anchor_Seen.f k x334000 x334001 x334002 x334003 x334004 x334005 x334006 x334007 x334008 x334009 x334010 x334011 (wrap64 (x1 + x349000))).bind fun bt349 => (if bt349.2.2 = true then ((carry_Way.f k x334000 x334001 x334002 x334003 x334004 x334005 x334006 x334007 x334008 x334009 x334010 x334011 bt349.1 bt349.2.1 (wrap64 ((wrap64 (x334003 - x349001)) + x349002))).bind fun bt353 => (if x9.length < 8796093022208 then (clepsydralaw16_AnchorHolds.l0 k x1 (x9 ++ [(⟨bt353.1, bt353.2⟩ : S33)]) x54 x55 (wrap64 (x56 + 1)) x334000 x334001 x334002 x334003 x334004 x334005 x334006 x334007 x334008 x334009 x334010 x334011) else (none))) else (some false)))
end
def clepsydralaw16_AnchorHolds.f (k : Nat) (a0_0 : Int) (a0_1 : Int) (a0_2 : Int) (a0_3 : Int) (a0_4 : Int) (a0_5 : Int) (a0_6 : Int) (a0_7 : Int) (a0_8 : Int) (a0_9 : Int) (a0_10 : Int) (a0_11 : Int) (a1 : Int) (l2 : List (S66)) (l3 : List (S33)) : Option (Bool) := (clepsydralaw16_alive.f k).bind fun t334 => (if t334 = true then ((limit_Check.f k a0_0 a0_1 a0_2 a0_3 a0_4 a0_5 a0_6 a0_7 a0_8 a0_9 a0_10 a0_11).bind fun t335 => (if t335 = 0 then (if a1 > 576460752303423488 then (clepsydralaw16_AnchorHolds.j0 k a1 l2 l3 true a0_0 a0_1 a0_2 a0_3 a0_4 a0_5 a0_6 a0_7 a0_8 a0_9 a0_10 a0_11) else (if a1 < (-576460752303423488) then (clepsydralaw16_AnchorHolds.j0 k a1 l2 l3 true a0_0 a0_1 a0_2 a0_3 a0_4 a0_5 a0_6 a0_7 a0_8 a0_9 a0_10 a0_11) else (if (l2.length : Int) > 16 then (clepsydralaw16_AnchorHolds.j0 k a1 l2 l3 true a0_0 a0_1 a0_2 a0_3 a0_4 a0_5 a0_6 a0_7 a0_8 a0_9 a0_10 a0_11) else (if (l3.length : Int) > a0_1 then (clepsydralaw16_AnchorHolds.j0 k a1 l2 l3 true a0_0 a0_1 a0_2 a0_3 a0_4 a0_5 a0_6 a0_7 a0_8 a0_9 a0_10 a0_11) else (clepsydralaw16_AnchorHolds.j0 k a1 l2 l3 (decide ((l2.length : Int) < (wrap64 ((wrap64 (2 * a0_1)) + 1)))) a0_0 a0_1 a0_2 a0_3 a0_4 a0_5 a0_6 a0_7 a0_8 a0_9 a0_10 a0_11))))) else (clepsydralaw16_AnchorHolds.j0 k a1 l2 l3 true a0_0 a0_1 a0_2 a0_3 a0_4 a0_5 a0_6 a0_7 a0_8 a0_9 a0_10 a0_11))) else (some false))
theorem clepsydralaw16_AnchorHolds.mono_l : ∀ k, (∀ y0 y1 y2 y3 y4 y5 y6 y7 y8 y9 y10 y11 y12 y13 y14 y15, LeO (clepsydralaw16_AnchorHolds.j0 k y0 y1 y2 y3 y4 y5 y6 y7 y8 y9 y10 y11 y12 y13 y14 y15) (clepsydralaw16_AnchorHolds.j0 (k + 1) y0 y1 y2 y3 y4 y5 y6 y7 y8 y9 y10 y11 y12 y13 y14 y15)) ∧ (∀ y0 y1 y2 y3 y4 y5 y6 y7 y8 y9 y10 y11 y12 y13 y14 y15 y16, LeO (clepsydralaw16_AnchorHolds.l0 k y0 y1 y2 y3 y4 y5 y6 y7 y8 y9 y10 y11 y12 y13 y14 y15 y16) (clepsydralaw16_AnchorHolds.l0 (k + 1) y0 y1 y2 y3 y4 y5 y6 y7 y8 y9 y10 y11 y12 y13 y14 y15 y16)) ∧ (∀ y0 y1 y2 y3 y4 y5 y6 y7 y8 y9 y10 y11 y12 y13 y14 y15 y16 y17 y18 y19 y20, LeO (clepsydralaw16_AnchorHolds.j2 k y0 y1 y2 y3 y4 y5 y6 y7 y8 y9 y10 y11 y12 y13 y14 y15 y16 y17 y18 y19 y20) (clepsydralaw16_AnchorHolds.j2 (k + 1) y0 y1 y2 y3 y4 y5 y6 y7 y8 y9 y10 y11 y12 y13 y14 y15 y16 y17 y18 y19 y20))
  | 0 => ⟨fun _ _ _ _ _ _ _ _ _ _ _ _ _ _ _ _ r h => by simp [clepsydralaw16_AnchorHolds.j0] at h, fun _ _ _ _ _ _ _ _ _ _ _ _ _ _ _ _ _ r h => by simp [clepsydralaw16_AnchorHolds.l0] at h, fun _ _ _ _ _ _ _ _ _ _ _ _ _ _ _ _ _ _ _ _ _ r h => by simp [clepsydralaw16_AnchorHolds.j2] at h⟩
  | k + 1 => by
    obtain ⟨ih0, ih1, ih2⟩ := clepsydralaw16_AnchorHolds.mono_l k
    refine ⟨?_, ?_, ?_⟩
    · intro y0 y1 y2 y3 y4 y5 y6 y7 y8 y9 y10 y11 y12 y13 y14 y15
      unfold clepsydralaw16_AnchorHolds.j0
      repeat' first
      | (with_reducible exact ih0 _ _ _ _ _ _ _ _ _ _ _ _ _ _ _ _)
      | (with_reducible exact ih1 _ _ _ _ _ _ _ _ _ _ _ _ _ _ _ _ _)
      | (with_reducible exact ih2 _ _ _ _ _ _ _ _ _ _ _ _ _ _ _ _ _ _ _ _ _)
      | (with_reducible exact anchor_Fuse.mono _ _ _ _ _ _ _ _ _ _ _ _ _ _)
      | (with_reducible exact anchor_Seen.mono _ _ _ _ _ _ _ _ _ _ _ _ _ _)
      | (with_reducible exact carry_Way.mono _ _ _ _ _ _ _ _ _ _ _ _ _ _ _ _)
      | (with_reducible exact clepsydralaw16_alive.mono _)
      | (with_reducible exact limit_Check.mono _ _ _ _ _ _ _ _ _ _ _ _ _)
      | (with_reducible exact limit_Hop.mono _ _ _ _ _ _ _ _ _ _ _ _ _)
      | (with_reducible exact LeO.refl _)
      | (with_reducible exact LeO.none _)
      | (with_reducible refine LeO.ite ?_ ?_)
      | (with_reducible refine LeO.bind ?_ (fun _ => ?_))
      | exact ih0 _ _ _ _ _ _ _ _ _ _ _ _ _ _ _ _
      | exact ih1 _ _ _ _ _ _ _ _ _ _ _ _ _ _ _ _ _
      | exact ih2 _ _ _ _ _ _ _ _ _ _ _ _ _ _ _ _ _ _ _ _ _
      | exact anchor_Fuse.mono _ _ _ _ _ _ _ _ _ _ _ _ _ _
      | exact anchor_Seen.mono _ _ _ _ _ _ _ _ _ _ _ _ _ _
      | exact carry_Way.mono _ _ _ _ _ _ _ _ _ _ _ _ _ _ _ _
      | exact clepsydralaw16_alive.mono _
      | exact limit_Check.mono _ _ _ _ _ _ _ _ _ _ _ _ _
      | exact limit_Hop.mono _ _ _ _ _ _ _ _ _ _ _ _ _
      | exact LeO.none _
      | refine LeO.ite ?_ ?_
      | refine LeO.bind ?_ (fun _ => ?_)
    · intro y0 y1 y2 y3 y4 y5 y6 y7 y8 y9 y10 y11 y12 y13 y14 y15 y16
      unfold clepsydralaw16_AnchorHolds.l0
      repeat' first
      | (with_reducible exact ih0 _ _ _ _ _ _ _ _ _ _ _ _ _ _ _ _)
      | (with_reducible exact ih1 _ _ _ _ _ _ _ _ _ _ _ _ _ _ _ _ _)
      | (with_reducible exact ih2 _ _ _ _ _ _ _ _ _ _ _ _ _ _ _ _ _ _ _ _ _)
      | (with_reducible exact anchor_Fuse.mono _ _ _ _ _ _ _ _ _ _ _ _ _ _)
      | (with_reducible exact anchor_Seen.mono _ _ _ _ _ _ _ _ _ _ _ _ _ _)
      | (with_reducible exact carry_Way.mono _ _ _ _ _ _ _ _ _ _ _ _ _ _ _ _)
      | (with_reducible exact clepsydralaw16_alive.mono _)
      | (with_reducible exact limit_Check.mono _ _ _ _ _ _ _ _ _ _ _ _ _)
      | (with_reducible exact limit_Hop.mono _ _ _ _ _ _ _ _ _ _ _ _ _)
      | (with_reducible exact LeO.refl _)
      | (with_reducible exact LeO.none _)
      | (with_reducible refine LeO.ite ?_ ?_)
      | (with_reducible refine LeO.bind ?_ (fun _ => ?_))
      | exact ih0 _ _ _ _ _ _ _ _ _ _ _ _ _ _ _ _
      | exact ih1 _ _ _ _ _ _ _ _ _ _ _ _ _ _ _ _ _
      | exact ih2 _ _ _ _ _ _ _ _ _ _ _ _ _ _ _ _ _ _ _ _ _
      | exact anchor_Fuse.mono _ _ _ _ _ _ _ _ _ _ _ _ _ _
      | exact anchor_Seen.mono _ _ _ _ _ _ _ _ _ _ _ _ _ _
      | exact carry_Way.mono _ _ _ _ _ _ _ _ _ _ _ _ _ _ _ _
      | exact clepsydralaw16_alive.mono _
      | exact limit_Check.mono _ _ _ _ _ _ _ _ _ _ _ _ _
      | exact limit_Hop.mono _ _ _ _ _ _ _ _ _ _ _ _ _
      | exact LeO.none _
      | refine LeO.ite ?_ ?_
      | refine LeO.bind ?_ (fun _ => ?_)
    · intro y0 y1 y2 y3 y4 y5 y6 y7 y8 y9 y10 y11 y12 y13 y14 y15 y16 y17 y18 y19 y20
      unfold clepsydralaw16_AnchorHolds.j2
      repeat' first
      | (with_reducible exact ih0 _ _ _ _ _ _ _ _ _ _ _ _ _ _ _ _)
      | (with_reducible exact ih1 _ _ _ _ _ _ _ _ _ _ _ _ _ _ _ _ _)
      | (with_reducible exact ih2 _ _ _ _ _ _ _ _ _ _ _ _ _ _ _ _ _ _ _ _ _)
      | (with_reducible exact anchor_Fuse.mono _ _ _ _ _ _ _ _ _ _ _ _ _ _)
      | (with_reducible exact anchor_Seen.mono _ _ _ _ _ _ _ _ _ _ _ _ _ _)
      | (with_reducible exact carry_Way.mono _ _ _ _ _ _ _ _ _ _ _ _ _ _ _ _)
      | (with_reducible exact clepsydralaw16_alive.mono _)
      | (with_reducible exact limit_Check.mono _ _ _ _ _ _ _ _ _ _ _ _ _)
      | (with_reducible exact limit_Hop.mono _ _ _ _ _ _ _ _ _ _ _ _ _)
      | (with_reducible exact LeO.refl _)
      | (with_reducible exact LeO.none _)
      | (with_reducible refine LeO.ite ?_ ?_)
      | (with_reducible refine LeO.bind ?_ (fun _ => ?_))
      | exact ih0 _ _ _ _ _ _ _ _ _ _ _ _ _ _ _ _
      | exact ih1 _ _ _ _ _ _ _ _ _ _ _ _ _ _ _ _ _
      | exact ih2 _ _ _ _ _ _ _ _ _ _ _ _ _ _ _ _ _ _ _ _ _
      | exact anchor_Fuse.mono _ _ _ _ _ _ _ _ _ _ _ _ _ _
      | exact anchor_Seen.mono _ _ _ _ _ _ _ _ _ _ _ _ _ _
      | exact carry_Way.mono _ _ _ _ _ _ _ _ _ _ _ _ _ _ _ _
      | exact clepsydralaw16_alive.mono _
      | exact limit_Check.mono _ _ _ _ _ _ _ _ _ _ _ _ _
      | exact limit_Hop.mono _ _ _ _ _ _ _ _ _ _ _ _ _
      | exact LeO.none _
      | refine LeO.ite ?_ ?_
      | refine LeO.bind ?_ (fun _ => ?_)
theorem clepsydralaw16_AnchorHolds.mono : ∀ a0 a1 a2 a3 a4 a5 a6 a7 a8 a9 a10 a11 a12 a13 a14 k, LeO (clepsydralaw16_AnchorHolds.f k a0 a1 a2 a3 a4 a5 a6 a7 a8 a9 a10 a11 a12 a13 a14) (clepsydralaw16_AnchorHolds.f (k + 1) a0 a1 a2 a3 a4 a5 a6 a7 a8 a9 a10 a11 a12 a13 a14) := by
  intro a0 a1 a2 a3 a4 a5 a6 a7 a8 a9 a10 a11 a12 a13 a14 k
  obtain ⟨ih0, ih1, ih2⟩ := clepsydralaw16_AnchorHolds.mono_l k
  unfold clepsydralaw16_AnchorHolds.f
  repeat' first
      | (with_reducible exact ih0 _ _ _ _ _ _ _ _ _ _ _ _ _ _ _ _)
      | (with_reducible exact ih1 _ _ _ _ _ _ _ _ _ _ _ _ _ _ _ _ _)
      | (with_reducible exact ih2 _ _ _ _ _ _ _ _ _ _ _ _ _ _ _ _ _ _ _ _ _)
      | (with_reducible exact anchor_Fuse.mono _ _ _ _ _ _ _ _ _ _ _ _ _ _)
      | (with_reducible exact anchor_Seen.mono _ _ _ _ _ _ _ _ _ _ _ _ _ _)
      | (with_reducible exact carry_Way.mono _ _ _ _ _ _ _ _ _ _ _ _ _ _ _ _)
      | (with_reducible exact clepsydralaw16_alive.mono _)
      | (with_reducible exact limit_Check.mono _ _ _ _ _ _ _ _ _ _ _ _ _)
      | (with_reducible exact limit_Hop.mono _ _ _ _ _ _ _ _ _ _ _ _ _)
      | (with_reducible exact LeO.refl _)
      | (with_reducible exact LeO.none _)
      | (with_reducible refine LeO.ite ?_ ?_)
      | (with_reducible refine LeO.bind ?_ (fun _ => ?_))
      | exact ih0 _ _ _ _ _ _ _ _ _ _ _ _ _ _ _ _
      | exact ih1 _ _ _ _ _ _ _ _ _ _ _ _ _ _ _ _ _
      | exact ih2 _ _ _ _ _ _ _ _ _ _ _ _ _ _ _ _ _ _ _ _ _
      | exact anchor_Fuse.mono _ _ _ _ _ _ _ _ _ _ _ _ _ _
      | exact anchor_Seen.mono _ _ _ _ _ _ _ _ _ _ _ _ _ _
      | exact carry_Way.mono _ _ _ _ _ _ _ _ _ _ _ _ _ _ _ _
      | exact clepsydralaw16_alive.mono _
      | exact limit_Check.mono _ _ _ _ _ _ _ _ _ _ _ _ _
      | exact limit_Hop.mono _ _ _ _ _ _ _ _ _ _ _ _ _
      | exact LeO.none _
      | refine LeO.ite ?_ ?_
      | refine LeO.bind ?_ (fun _ => ?_)
def clepsydralaw16_AnchorHolds.T18 : Bool × List (List Nat × List Nat) := (true, [([], []), ([0], [0]), ([1], [1]), ([2, 1], [1, 2]), ([1], [1]), ([3, 4, 1], [1, 3, 4]), ([1, 5], [1, 5]), ([6, 1], [6]), ([7], [7]), ([7], [7]), ([9, 7], [7, 9]), ([8, 10, 7], [7, 8, 10]), ([7, 11], [7, 11]), ([12, 7], [12]), ([13], [13]), ([14, 13], [13, 14]), ([13], [13]), ([16, 13], [13, 16]), ([15, 17, 13], [13, 15, 17]), ([13], [13]), ([19, 13], [13, 19]), ([20, 13], [13, 20]), ([13], [13]), ([22, 13, 13], [13, 22]), ([21, 23, 13], [13, 21, 23]), ([18, 24, 13], [13, 18, 24]), ([13, 25], [13, 25]), ([26, 23, 0, 1, 2, 3, 4, 5, 6, 7, 8, 9, 10, 11, 12, 13, 14, 15, 16, 17, 18, 19, 20, 21, 22, 23, 24, 25, 26], [26])])
def clepsydralaw16_AnchorHolds.B18 : List Nat := [0, 1, 3, 7, 3, 31, 63, 127, 255, 255, 767, 2047, 4095, 8191, 16383, 32767, 16383, 81919, 262143, 16383, 540671, 1589247, 16383, 4210687, 16269311, 33554431, 67108863, 134217727]
theorem clepsydralaw16_AnchorHolds.tab18 : rtab .any (opsOf Try.f11 18) = clepsydralaw16_AnchorHolds.T18 := by kernel_rfl
theorem clepsydralaw16_AnchorHolds.bits18 : waitsOk clepsydralaw16_AnchorHolds.T18.2 clepsydralaw16_AnchorHolds.B18 = true := by kernel_rfl
set_option maxHeartbeats 8000000 in
set_option maxRecDepth 100000 in
theorem clepsydralaw16_AnchorHolds.calls (k : Nat) (a0_0 : Int) (a0_1 : Int) (a0_2 : Int) (a0_3 : Int) (a0_4 : Int) (a0_5 : Int) (a0_6 : Int) (a0_7 : Int) (a0_8 : Int) (a0_9 : Int) (a0_10 : Int) (a0_11 : Int) (a1 : Int) (A2 : Option Addr) (c2 : Nat) (l2 : List (S66)) (A3 : Option Addr) (c3 : Nat) (l3 : List (S33)) (r : Bool) (w : World) (hr2 : Kd.C k66 w A2 l2.length l2) (hc2 : l2.length ≤ c2) (hr3 : Kd.C k33 w A3 l3.length l3) (hc3 : l3.length ≤ c3) (h : clepsydralaw16_AnchorHolds.f k a0_0 a0_1 a0_2 a0_3 a0_4 a0_5 a0_6 a0_7 a0_8 a0_9 a0_10 a0_11 a1 l2 l3 = some r) :
    Calls Try.prog 11 #[.agg #[.int .i64 a0_0, .int .i64 a0_1, .int .i64 a0_2, .int .i64 a0_3, .int .i64 a0_4, .int .i64 a0_5, .int .i64 a0_6, .int .i64 a0_7, .int .i64 a0_8, .int .i64 a0_9, .int .i64 a0_10, .int .i64 a0_11], .int .i64 a1, .slice A2 l2.length c2, .slice A3 l3.length c3] w fun e w' => e = .returned (.bool r) ∧ Below w.heap.size w w' := by
  have hu23 := Try.underlying23
  have hu66 := Try.underlying66
  have hu33 := Try.underlying33
  have HR2 := Aside0.mk hr2
  have HC2 := Aside0.mk hc2
  clear hr2 hc2
  have HR3 := Aside0.mk hr3
  have HC3 := Aside0.mk hc3
  clear hr3 hc3
  have HB := Aside0.mk (Below.refl w.heap.size w)
  have H : ((clepsydralaw16_alive.f k).bind fun t334 => (if t334 = true then ((limit_Check.f k a0_0 a0_1 a0_2 a0_3 a0_4 a0_5 a0_6 a0_7 a0_8 a0_9 a0_10 a0_11).bind fun t335 => (if t335 = 0 then (if a1 > 576460752303423488 then (clepsydralaw16_AnchorHolds.j0 k a1 l2 l3 true a0_0 a0_1 a0_2 a0_3 a0_4 a0_5 a0_6 a0_7 a0_8 a0_9 a0_10 a0_11) else (if a1 < (-576460752303423488) then (clepsydralaw16_AnchorHolds.j0 k a1 l2 l3 true a0_0 a0_1 a0_2 a0_3 a0_4 a0_5 a0_6 a0_7 a0_8 a0_9 a0_10 a0_11) else (if (l2.length : Int) > 16 then (clepsydralaw16_AnchorHolds.j0 k a1 l2 l3 true a0_0 a0_1 a0_2 a0_3 a0_4 a0_5 a0_6 a0_7 a0_8 a0_9 a0_10 a0_11) else (if (l3.length : Int) > a0_1 then (clepsydralaw16_AnchorHolds.j0 k a1 l2 l3 true a0_0 a0_1 a0_2 a0_3 a0_4 a0_5 a0_6 a0_7 a0_8 a0_9 a0_10 a0_11) else (clepsydralaw16_AnchorHolds.j0 k a1 l2 l3 (decide ((l2.length : Int) < (wrap64 ((wrap64 (2 * a0_1)) + 1)))) a0_0 a0_1 a0_2 a0_3 a0_4 a0_5 a0_6 a0_7 a0_8 a0_9 a0_10 a0_11))))) else (clepsydralaw16_AnchorHolds.j0 k a1 l2 l3 true a0_0 a0_1 a0_2 a0_3 a0_4 a0_5 a0_6 a0_7 a0_8 a0_9 a0_10 a0_11))) else (some false))) = some r := h
  clear h
  replace H := Option.bind_eq_some_iff.mp H
  obtain ⟨t334, A50, H⟩ := H
  replace H : (if t334 = true then ((limit_Check.f k a0_0 a0_1 a0_2 a0_3 a0_4 a0_5 a0_6 a0_7 a0_8 a0_9 a0_10 a0_11).bind fun t335 => (if t335 = 0 then (if a1 > 576460752303423488 then (clepsydralaw16_AnchorHolds.j0 k a1 l2 l3 true a0_0 a0_1 a0_2 a0_3 a0_4 a0_5 a0_6 a0_7 a0_8 a0_9 a0_10 a0_11) else (if a1 < (-576460752303423488) then (clepsydralaw16_AnchorHolds.j0 k a1 l2 l3 true a0_0 a0_1 a0_2 a0_3 a0_4 a0_5 a0_6 a0_7 a0_8 a0_9 a0_10 a0_11) else (if (l2.length : Int) > 16 then (clepsydralaw16_AnchorHolds.j0 k a1 l2 l3 true a0_0 a0_1 a0_2 a0_3 a0_4 a0_5 a0_6 a0_7 a0_8 a0_9 a0_10 a0_11) else (if (l3.length : Int) > a0_1 then (clepsydralaw16_AnchorHolds.j0 k a1 l2 l3 true a0_0 a0_1 a0_2 a0_3 a0_4 a0_5 a0_6 a0_7 a0_8 a0_9 a0_10 a0_11) else (clepsydralaw16_AnchorHolds.j0 k a1 l2 l3 (decide ((l2.length : Int) < (wrap64 ((wrap64 (2 * a0_1)) + 1)))) a0_0 a0_1 a0_2 a0_3 a0_4 a0_5 a0_6 a0_7 a0_8 a0_9 a0_10 a0_11))))) else (clepsydralaw16_AnchorHolds.j0 k a1 l2 l3 true a0_0 a0_1 a0_2 a0_3 a0_4 a0_5 a0_6 a0_7 a0_8 a0_9 a0_10 a0_11))) else (some false)) = some r := H
  have A5 := Aside0.mk A50
  clear A50
  by_cases c6 : t334 = true
  · subst c6
    have H1 : ((limit_Check.f k a0_0 a0_1 a0_2 a0_3 a0_4 a0_5 a0_6 a0_7 a0_8 a0_9 a0_10 a0_11).bind fun t335 => (if t335 = 0 then (if a1 > 576460752303423488 then (clepsydralaw16_AnchorHolds.j0 k a1 l2 l3 true a0_0 a0_1 a0_2 a0_3 a0_4 a0_5 a0_6 a0_7 a0_8 a0_9 a0_10 a0_11) else (if a1 < (-576460752303423488) then (clepsydralaw16_AnchorHolds.j0 k a1 l2 l3 true a0_0 a0_1 a0_2 a0_3 a0_4 a0_5 a0_6 a0_7 a0_8 a0_9 a0_10 a0_11) else (if (l2.length : Int) > 16 then (clepsydralaw16_AnchorHolds.j0 k a1 l2 l3 true a0_0 a0_1 a0_2 a0_3 a0_4 a0_5 a0_6 a0_7 a0_8 a0_9 a0_10 a0_11) else (if (l3.length : Int) > a0_1 then (clepsydralaw16_AnchorHolds.j0 k a1 l2 l3 true a0_0 a0_1 a0_2 a0_3 a0_4 a0_5 a0_6 a0_7 a0_8 a0_9 a0_10 a0_11) else (clepsydralaw16_AnchorHolds.j0 k a1 l2 l3 (decide ((l2.length : Int) < (wrap64 ((wrap64 (2 * a0_1)) + 1)))) a0_0 a0_1 a0_2 a0_3 a0_4 a0_5 a0_6 a0_7 a0_8 a0_9 a0_10 a0_11))))) else (clepsydralaw16_AnchorHolds.j0 k a1 l2 l3 true a0_0 a0_1 a0_2 a0_3 a0_4 a0_5 a0_6 a0_7 a0_8 a0_9 a0_10 a0_11))) = some r := by rw [if_pos rfl] at H; exact H
    clear H
    have H := H1
    clear H1
    have HC7 := Aside0.mk H
    clear H
    go_enter Try.func11, Try.ntmps11
    go_upto_region 3 with (first | ((with_reducible refine gate_dst (N := 4) rfl ?_); (try (refine gate_guard (by rfl) ?_; dsimp only)); refine box_event ?hg (N := 4) ?hd (cs := #[.int .i64 a0_0, .int .i64 a0_1, .int .i64 a0_2, .int .i64 a0_3, .int .i64 a0_4, .int .i64 a0_5, .int .i64 a0_6, .int .i64 a0_7, .int .i64 a0_8, .int .i64 a0_9, .int .i64 a0_10, .int .i64 a0_11]) (t := 23) ?hr ?_; (case hd => rfl); (case hg => rfl); (case hr => first | (go_simp; done) | (go_simp; rfl)); intro gb333 hg w8 hbox hb; have n0_ := Aside0.mk (below_step (by repeat (first | (with_reducible first | exact HB.out | apply below_alloc | apply pw_below_drewN | apply below_drew1) | exact HB.out)) hb); have n1_ := Aside0.mk (hbox); have n2_ := Aside0.mk ((by rw [hg]; exact (below_size (by repeat (first | (with_reducible first | exact HB.out | apply below_alloc | apply pw_below_drewN | apply below_drew1) | exact HB.out))) : w.heap.size ≤ gb333)); have n3_ := Aside0.mk ((by rw [hg]; exact (below_size (by repeat (first | (with_reducible first | exact HB.out | apply below_alloc | apply pw_below_drewN | apply below_drew1) | exact HB.out))) : w.heap.size ≤ gb333)); clear HB; have HB := n0_; have BK333 := n1_; have GW333 := n2_; have GE333 := n3_; clear n0_ n1_ n2_ n3_; clear hb hbox hg) | ((with_reducible refine gate_callee (f := 23) rfl ?_); refine goesL_ (some 17) rfl rfl Try.func23 (by kernel_rfl) rfl #[] rfl (by (try simp only [List.map_toArray, List.map_cons, List.map_nil]); first | done | rfl | (simp only [List.length_drop, List.length_take]; rfl)) ?_; (with_reducible refine (clepsydralaw16_alive.calls k  true _ A5.out).mono ?_); rintro e w9 ⟨rfl, hb⟩; refine ⟨_, rfl, ?_⟩; have n0_ := Aside0.mk (blk_below (g := gb333) (o := .cells #[.int .i64 a0_0, .int .i64 a0_1, .int .i64 a0_2, .int .i64 a0_3, .int .i64 a0_4, .int .i64 a0_5, .int .i64 a0_6, .int .i64 a0_7, .int .i64 a0_8, .int .i64 a0_9, .int .i64 a0_10, .int .i64 a0_11] 23 (0, 0)) (by (with_reducible repeat (first | refine blk_drewN ?_ _ | refine blk_drew ?_ | refine blk_alloc ?_ _)); exact BK333.out) hb); have n1_ := Aside0.mk (below_step (by repeat (first | (with_reducible first | exact HB.out | apply below_alloc | apply pw_below_drewN | apply below_drew1 | refine below_set ?_ GE333.out) | exact HB.out)) hb); clear BK333; clear HB; have BK333 := n0_; have HB := n1_; clear n0_ n1_; (try clear hb); (try clear hb2); (try clear hk); (try clear hi)))
    (try simp only [Act.put, List.setIfInBounds_toArray, List.set_cons_zero, List.set_cons_succ])
    go_cut [50] (fun v50 wc => ∃ (kq : Nat) (x50_6 : Bool), v50 = .bool x50_6 ∧ Aside0 (clepsydralaw16_AnchorHolds.j0 kq a1 l2 l3 x50_6 a0_0 a0_1 a0_2 a0_3 a0_4 a0_5 a0_6 a0_7 a0_8 a0_9 a0_10 a0_11 = some r) ∧ Aside0 (kq ≤ k) ∧ Aside0 (wc.heap[gb333]? = some (.cells #[.int .i64 a0_0, .int .i64 a0_1, .int .i64 a0_2, .int .i64 a0_3, .int .i64 a0_4, .int .i64 a0_5, .int .i64 a0_6, .int .i64 a0_7, .int .i64 a0_8, .int .i64 a0_9, .int .i64 a0_10, .int .i64 a0_11] 23 (0, 0))) ∧ Aside0 (Below w.heap.size w wc))
    case first =>
      have H := HC7.out
      clear HC7
      replace H := Option.bind_eq_some_iff.mp H
      obtain ⟨t335, A100, H⟩ := H
      replace H : (if t335 = 0 then (if a1 > 576460752303423488 then (clepsydralaw16_AnchorHolds.j0 k a1 l2 l3 true a0_0 a0_1 a0_2 a0_3 a0_4 a0_5 a0_6 a0_7 a0_8 a0_9 a0_10 a0_11) else (if a1 < (-576460752303423488) then (clepsydralaw16_AnchorHolds.j0 k a1 l2 l3 true a0_0 a0_1 a0_2 a0_3 a0_4 a0_5 a0_6 a0_7 a0_8 a0_9 a0_10 a0_11) else (if (l2.length : Int) > 16 then (clepsydralaw16_AnchorHolds.j0 k a1 l2 l3 true a0_0 a0_1 a0_2 a0_3 a0_4 a0_5 a0_6 a0_7 a0_8 a0_9 a0_10 a0_11) else (if (l3.length : Int) > a0_1 then (clepsydralaw16_AnchorHolds.j0 k a1 l2 l3 true a0_0 a0_1 a0_2 a0_3 a0_4 a0_5 a0_6 a0_7 a0_8 a0_9 a0_10 a0_11) else (clepsydralaw16_AnchorHolds.j0 k a1 l2 l3 (decide ((l2.length : Int) < (wrap64 ((wrap64 (2 * a0_1)) + 1)))) a0_0 a0_1 a0_2 a0_3 a0_4 a0_5 a0_6 a0_7 a0_8 a0_9 a0_10 a0_11))))) else (clepsydralaw16_AnchorHolds.j0 k a1 l2 l3 true a0_0 a0_1 a0_2 a0_3 a0_4 a0_5 a0_6 a0_7 a0_8 a0_9 a0_10 a0_11)) = some r := H
      have A10 := Aside0.mk A100
      clear A100
      by_cases c11 : t335 = 0
      · rw [if_pos c11] at H
        have c11b0 : (t335 == 0) = true := beq_iff_eq.mpr c11
        have c11b1 : (t335 != 0) = false := bne_eq_false_iff_eq.mpr c11
        clear c11
        (first | rw [c11b0] | (simp only [i64_w, i32_w]; rw [c11b0]) | skip)
        by_cases c12 : a1 > 576460752303423488
        · rw [if_pos c12] at H
          have c12b0 : decide (576460752303423488 < a1) = true := decide_eq_true c12
          clear c12
          have H' := Aside0.mk H
          clear H
          have hcz13_0 : w9.cell? ⟨gb333, 0, none⟩ = some (.int .i64 a0_0) := (blk_cell BK333.out 0).trans rfl
          have hcz13_1 : w9.cell? ⟨gb333, 1, none⟩ = some (.int .i64 a0_1) := (blk_cell BK333.out 1).trans rfl
          have hcz13_2 : w9.cell? ⟨gb333, 2, none⟩ = some (.int .i64 a0_2) := (blk_cell BK333.out 2).trans rfl
          have hcz13_3 : w9.cell? ⟨gb333, 3, none⟩ = some (.int .i64 a0_3) := (blk_cell BK333.out 3).trans rfl
          have hcz13_4 : w9.cell? ⟨gb333, 4, none⟩ = some (.int .i64 a0_4) := (blk_cell BK333.out 4).trans rfl
          have hcz13_5 : w9.cell? ⟨gb333, 5, none⟩ = some (.int .i64 a0_5) := (blk_cell BK333.out 5).trans rfl
          have hcz13_6 : w9.cell? ⟨gb333, 6, none⟩ = some (.int .i64 a0_6) := (blk_cell BK333.out 6).trans rfl
          have hcz13_7 : w9.cell? ⟨gb333, 7, none⟩ = some (.int .i64 a0_7) := (blk_cell BK333.out 7).trans rfl
          have hcz13_8 : w9.cell? ⟨gb333, 8, none⟩ = some (.int .i64 a0_8) := (blk_cell BK333.out 8).trans rfl
          have hcz13_9 : w9.cell? ⟨gb333, 9, none⟩ = some (.int .i64 a0_9) := (blk_cell BK333.out 9).trans rfl
          have hcz13_10 : w9.cell? ⟨gb333, 10, none⟩ = some (.int .i64 a0_10) := (blk_cell BK333.out 10).trans rfl
          have hcz13_11 : w9.cell? ⟨gb333, 11, none⟩ = some (.int .i64 a0_11) := (blk_cell BK333.out 11).trans rfl
          have hfz13_0 := blk_frozen BK333.out 0
          have hfz13_1 := blk_frozen BK333.out 1
          have hfz13_2 := blk_frozen BK333.out 2
          have hfz13_3 := blk_frozen BK333.out 3
          have hfz13_4 := blk_frozen BK333.out 4
          have hfz13_5 := blk_frozen BK333.out 5
          have hfz13_6 := blk_frozen BK333.out 6
          have hfz13_7 := blk_frozen BK333.out 7
          have hfz13_8 := blk_frozen BK333.out 8
          have hfz13_9 := blk_frozen BK333.out 9
          have hfz13_10 := blk_frozen BK333.out 10
          have hfz13_11 := blk_frozen BK333.out 11
          go_wp2_with (first | ((with_reducible refine gate_callee (f := 32) rfl ?_); refine goesL_ (some 20) rfl rfl Try.func32 (by kernel_rfl) rfl #[.agg #[.int .i64 a0_0, .int .i64 a0_1, .int .i64 a0_2, .int .i64 a0_3, .int .i64 a0_4, .int .i64 a0_5, .int .i64 a0_6, .int .i64 a0_7, .int .i64 a0_8, .int .i64 a0_9, .int .i64 a0_10, .int .i64 a0_11]] rfl (by (try simp only [List.map_toArray, List.map_cons, List.map_nil]); first | done | rfl | (simp only [List.length_drop, List.length_take]; rfl)) ?_; (with_reducible refine (limit_Check.calls k a0_0 a0_1 a0_2 a0_3 a0_4 a0_5 a0_6 a0_7 a0_8 a0_9 a0_10 a0_11 t335 _ A10.out).mono ?_); rintro e w14 ⟨rfl, hb⟩; refine ⟨_, rfl, ?_⟩; have n0_ := Aside0.mk (blk_below (g := gb333) (o := .cells #[.int .i64 a0_0, .int .i64 a0_1, .int .i64 a0_2, .int .i64 a0_3, .int .i64 a0_4, .int .i64 a0_5, .int .i64 a0_6, .int .i64 a0_7, .int .i64 a0_8, .int .i64 a0_9, .int .i64 a0_10, .int .i64 a0_11] 23 (0, 0)) (by (with_reducible repeat (first | refine blk_drewN ?_ _ | refine blk_drew ?_ | refine blk_alloc ?_ _)); exact BK333.out) hb); have n1_ := Aside0.mk (below_step (by repeat (first | (with_reducible first | exact HB.out | apply below_alloc | apply pw_below_drewN | apply below_drew1 | refine below_set ?_ GE333.out) | exact HB.out)) hb); clear BK333; clear HB; have BK333 := n0_; have HB := n1_; clear n0_ n1_; (try clear hb); (try clear hb2); (try clear hk); (try clear hi)))
          go_meet
          case rel => exact ⟨_, (true), (by first | rfl | (simp; done) | (simp [*]; done)), H', ⟨by first | omega | exact Nat.le_refl _⟩, ⟨by (with_reducible repeat (first | refine blk_drewN ?_ _ | refine blk_drew ?_ | refine blk_alloc ?_ _)); exact BK333.out⟩, ⟨by repeat (first | (with_reducible first | exact HB.out | apply below_alloc | apply pw_below_drewN | apply below_drew1 | refine below_set ?_ GE333.out) | exact HB.out)⟩⟩
        · rw [if_neg c12] at H
          have c12b0 : decide (576460752303423488 < a1) = false := decide_eq_false c12
          clear c12
          by_cases c15 : a1 < (-576460752303423488)
          · rw [if_pos c15] at H
            have c15b0 : decide (a1 < (-576460752303423488)) = true := decide_eq_true c15
            clear c15
            have H' := Aside0.mk H
            clear H
            have hcz16_0 : w9.cell? ⟨gb333, 0, none⟩ = some (.int .i64 a0_0) := (blk_cell BK333.out 0).trans rfl
            have hcz16_1 : w9.cell? ⟨gb333, 1, none⟩ = some (.int .i64 a0_1) := (blk_cell BK333.out 1).trans rfl
            have hcz16_2 : w9.cell? ⟨gb333, 2, none⟩ = some (.int .i64 a0_2) := (blk_cell BK333.out 2).trans rfl
            have hcz16_3 : w9.cell? ⟨gb333, 3, none⟩ = some (.int .i64 a0_3) := (blk_cell BK333.out 3).trans rfl
            have hcz16_4 : w9.cell? ⟨gb333, 4, none⟩ = some (.int .i64 a0_4) := (blk_cell BK333.out 4).trans rfl
            have hcz16_5 : w9.cell? ⟨gb333, 5, none⟩ = some (.int .i64 a0_5) := (blk_cell BK333.out 5).trans rfl
            have hcz16_6 : w9.cell? ⟨gb333, 6, none⟩ = some (.int .i64 a0_6) := (blk_cell BK333.out 6).trans rfl
            have hcz16_7 : w9.cell? ⟨gb333, 7, none⟩ = some (.int .i64 a0_7) := (blk_cell BK333.out 7).trans rfl
            have hcz16_8 : w9.cell? ⟨gb333, 8, none⟩ = some (.int .i64 a0_8) := (blk_cell BK333.out 8).trans rfl
            have hcz16_9 : w9.cell? ⟨gb333, 9, none⟩ = some (.int .i64 a0_9) := (blk_cell BK333.out 9).trans rfl
            have hcz16_10 : w9.cell? ⟨gb333, 10, none⟩ = some (.int .i64 a0_10) := (blk_cell BK333.out 10).trans rfl
            have hcz16_11 : w9.cell? ⟨gb333, 11, none⟩ = some (.int .i64 a0_11) := (blk_cell BK333.out 11).trans rfl
            have hfz16_0 := blk_frozen BK333.out 0
            have hfz16_1 := blk_frozen BK333.out 1
            have hfz16_2 := blk_frozen BK333.out 2
            have hfz16_3 := blk_frozen BK333.out 3
            have hfz16_4 := blk_frozen BK333.out 4
            have hfz16_5 := blk_frozen BK333.out 5
            have hfz16_6 := blk_frozen BK333.out 6
            have hfz16_7 := blk_frozen BK333.out 7
            have hfz16_8 := blk_frozen BK333.out 8
            have hfz16_9 := blk_frozen BK333.out 9
            have hfz16_10 := blk_frozen BK333.out 10
            have hfz16_11 := blk_frozen BK333.out 11
            go_wp2_with (first | ((with_reducible refine gate_callee (f := 32) rfl ?_); refine goesL_ (some 20) rfl rfl Try.func32 (by kernel_rfl) rfl #[.agg #[.int .i64 a0_0, .int .i64 a0_1, .int .i64 a0_2, .int .i64 a0_3, .int .i64 a0_4, .int .i64 a0_5, .int .i64 a0_6, .int .i64 a0_7, .int .i64 a0_8, .int .i64 a0_9, .int .i64 a0_10, .int .i64 a0_11]] rfl (by (try simp only [List.map_toArray, List.map_cons, List.map_nil]); first | done | rfl | (simp only [List.length_drop, List.length_take]; rfl)) ?_; (with_reducible refine (limit_Check.calls k a0_0 a0_1 a0_2 a0_3 a0_4 a0_5 a0_6 a0_7 a0_8 a0_9 a0_10 a0_11 t335 _ A10.out).mono ?_); rintro e w17 ⟨rfl, hb⟩; refine ⟨_, rfl, ?_⟩; have n0_ := Aside0.mk (blk_below (g := gb333) (o := .cells #[.int .i64 a0_0, .int .i64 a0_1, .int .i64 a0_2, .int .i64 a0_3, .int .i64 a0_4, .int .i64 a0_5, .int .i64 a0_6, .int .i64 a0_7, .int .i64 a0_8, .int .i64 a0_9, .int .i64 a0_10, .int .i64 a0_11] 23 (0, 0)) (by (with_reducible repeat (first | refine blk_drewN ?_ _ | refine blk_drew ?_ | refine blk_alloc ?_ _)); exact BK333.out) hb); have n1_ := Aside0.mk (below_step (by repeat (first | (with_reducible first | exact HB.out | apply below_alloc | apply pw_below_drewN | apply below_drew1 | refine below_set ?_ GE333.out) | exact HB.out)) hb); clear BK333; clear HB; have BK333 := n0_; have HB := n1_; clear n0_ n1_; (try clear hb); (try clear hb2); (try clear hk); (try clear hi)))
            go_meet
            case rel => exact ⟨_, (true), (by first | rfl | (simp; done) | (simp [*]; done)), H', ⟨by first | omega | exact Nat.le_refl _⟩, ⟨by (with_reducible repeat (first | refine blk_drewN ?_ _ | refine blk_drew ?_ | refine blk_alloc ?_ _)); exact BK333.out⟩, ⟨by repeat (first | (with_reducible first | exact HB.out | apply below_alloc | apply pw_below_drewN | apply below_drew1 | refine below_set ?_ GE333.out) | exact HB.out)⟩⟩
          · rw [if_neg c15] at H
            have c15b0 : decide (a1 < (-576460752303423488)) = false := decide_eq_false c15
            clear c15
            by_cases c18 : (l2.length : Int) > 16
            · rw [if_pos c18] at H
              have c18b0 : decide (16 < (l2.length : Int)) = true := decide_eq_true c18
              have c18b1 : decide (16 < l2.length) = true := decide_eq_true (by omega)
              clear c18
              have H' := Aside0.mk H
              clear H
              have hcz19_0 : w9.cell? ⟨gb333, 0, none⟩ = some (.int .i64 a0_0) := (blk_cell BK333.out 0).trans rfl
              have hcz19_1 : w9.cell? ⟨gb333, 1, none⟩ = some (.int .i64 a0_1) := (blk_cell BK333.out 1).trans rfl
              have hcz19_2 : w9.cell? ⟨gb333, 2, none⟩ = some (.int .i64 a0_2) := (blk_cell BK333.out 2).trans rfl
              have hcz19_3 : w9.cell? ⟨gb333, 3, none⟩ = some (.int .i64 a0_3) := (blk_cell BK333.out 3).trans rfl
              have hcz19_4 : w9.cell? ⟨gb333, 4, none⟩ = some (.int .i64 a0_4) := (blk_cell BK333.out 4).trans rfl
              have hcz19_5 : w9.cell? ⟨gb333, 5, none⟩ = some (.int .i64 a0_5) := (blk_cell BK333.out 5).trans rfl
              have hcz19_6 : w9.cell? ⟨gb333, 6, none⟩ = some (.int .i64 a0_6) := (blk_cell BK333.out 6).trans rfl
              have hcz19_7 : w9.cell? ⟨gb333, 7, none⟩ = some (.int .i64 a0_7) := (blk_cell BK333.out 7).trans rfl
              have hcz19_8 : w9.cell? ⟨gb333, 8, none⟩ = some (.int .i64 a0_8) := (blk_cell BK333.out 8).trans rfl
              have hcz19_9 : w9.cell? ⟨gb333, 9, none⟩ = some (.int .i64 a0_9) := (blk_cell BK333.out 9).trans rfl
              have hcz19_10 : w9.cell? ⟨gb333, 10, none⟩ = some (.int .i64 a0_10) := (blk_cell BK333.out 10).trans rfl
              have hcz19_11 : w9.cell? ⟨gb333, 11, none⟩ = some (.int .i64 a0_11) := (blk_cell BK333.out 11).trans rfl
              have hfz19_0 := blk_frozen BK333.out 0
              have hfz19_1 := blk_frozen BK333.out 1
              have hfz19_2 := blk_frozen BK333.out 2
              have hfz19_3 := blk_frozen BK333.out 3
              have hfz19_4 := blk_frozen BK333.out 4
              have hfz19_5 := blk_frozen BK333.out 5
              have hfz19_6 := blk_frozen BK333.out 6
              have hfz19_7 := blk_frozen BK333.out 7
              have hfz19_8 := blk_frozen BK333.out 8
              have hfz19_9 := blk_frozen BK333.out 9
              have hfz19_10 := blk_frozen BK333.out 10
              have hfz19_11 := blk_frozen BK333.out 11
              go_wp2_with (first | ((with_reducible refine gate_callee (f := 32) rfl ?_); refine goesL_ (some 20) rfl rfl Try.func32 (by kernel_rfl) rfl #[.agg #[.int .i64 a0_0, .int .i64 a0_1, .int .i64 a0_2, .int .i64 a0_3, .int .i64 a0_4, .int .i64 a0_5, .int .i64 a0_6, .int .i64 a0_7, .int .i64 a0_8, .int .i64 a0_9, .int .i64 a0_10, .int .i64 a0_11]] rfl (by (try simp only [List.map_toArray, List.map_cons, List.map_nil]); first | done | rfl | (simp only [List.length_drop, List.length_take]; rfl)) ?_; (with_reducible refine (limit_Check.calls k a0_0 a0_1 a0_2 a0_3 a0_4 a0_5 a0_6 a0_7 a0_8 a0_9 a0_10 a0_11 t335 _ A10.out).mono ?_); rintro e w20 ⟨rfl, hb⟩; refine ⟨_, rfl, ?_⟩; have n0_ := Aside0.mk (blk_below (g := gb333) (o := .cells #[.int .i64 a0_0, .int .i64 a0_1, .int .i64 a0_2, .int .i64 a0_3, .int .i64 a0_4, .int .i64 a0_5, .int .i64 a0_6, .int .i64 a0_7, .int .i64 a0_8, .int .i64 a0_9, .int .i64 a0_10, .int .i64 a0_11] 23 (0, 0)) (by (with_reducible repeat (first | refine blk_drewN ?_ _ | refine blk_drew ?_ | refine blk_alloc ?_ _)); exact BK333.out) hb); have n1_ := Aside0.mk (below_step (by repeat (first | (with_reducible first | exact HB.out | apply below_alloc | apply pw_below_drewN | apply below_drew1 | refine below_set ?_ GE333.out) | exact HB.out)) hb); clear BK333; clear HB; have BK333 := n0_; have HB := n1_; clear n0_ n1_; (try clear hb); (try clear hb2); (try clear hk); (try clear hi)))
              go_meet
              case rel => exact ⟨_, (true), (by first | rfl | (simp; done) | (simp [*]; done)), H', ⟨by first | omega | exact Nat.le_refl _⟩, ⟨by (with_reducible repeat (first | refine blk_drewN ?_ _ | refine blk_drew ?_ | refine blk_alloc ?_ _)); exact BK333.out⟩, ⟨by repeat (first | (with_reducible first | exact HB.out | apply below_alloc | apply pw_below_drewN | apply below_drew1 | refine below_set ?_ GE333.out) | exact HB.out)⟩⟩
            · rw [if_neg c18] at H
              have c18b0 : decide (16 < (l2.length : Int)) = false := decide_eq_false c18
              have c18b1 : decide (16 < l2.length) = false := decide_eq_false (by omega)
              clear c18
              by_cases c21 : (l3.length : Int) > a0_1
              · rw [if_pos c21] at H
                have c21b0 : decide (a0_1 < (l3.length : Int)) = true := decide_eq_true c21
                clear c21
                have H' := Aside0.mk H
                clear H
                have hcz22_0 : w9.cell? ⟨gb333, 0, none⟩ = some (.int .i64 a0_0) := (blk_cell BK333.out 0).trans rfl
                have hcz22_1 : w9.cell? ⟨gb333, 1, none⟩ = some (.int .i64 a0_1) := (blk_cell BK333.out 1).trans rfl
                have hcz22_2 : w9.cell? ⟨gb333, 2, none⟩ = some (.int .i64 a0_2) := (blk_cell BK333.out 2).trans rfl
                have hcz22_3 : w9.cell? ⟨gb333, 3, none⟩ = some (.int .i64 a0_3) := (blk_cell BK333.out 3).trans rfl
                have hcz22_4 : w9.cell? ⟨gb333, 4, none⟩ = some (.int .i64 a0_4) := (blk_cell BK333.out 4).trans rfl
                have hcz22_5 : w9.cell? ⟨gb333, 5, none⟩ = some (.int .i64 a0_5) := (blk_cell BK333.out 5).trans rfl
                have hcz22_6 : w9.cell? ⟨gb333, 6, none⟩ = some (.int .i64 a0_6) := (blk_cell BK333.out 6).trans rfl
                have hcz22_7 : w9.cell? ⟨gb333, 7, none⟩ = some (.int .i64 a0_7) := (blk_cell BK333.out 7).trans rfl
                have hcz22_8 : w9.cell? ⟨gb333, 8, none⟩ = some (.int .i64 a0_8) := (blk_cell BK333.out 8).trans rfl
                have hcz22_9 : w9.cell? ⟨gb333, 9, none⟩ = some (.int .i64 a0_9) := (blk_cell BK333.out 9).trans rfl
                have hcz22_10 : w9.cell? ⟨gb333, 10, none⟩ = some (.int .i64 a0_10) := (blk_cell BK333.out 10).trans rfl
                have hcz22_11 : w9.cell? ⟨gb333, 11, none⟩ = some (.int .i64 a0_11) := (blk_cell BK333.out 11).trans rfl
                have hfz22_0 := blk_frozen BK333.out 0
                have hfz22_1 := blk_frozen BK333.out 1
                have hfz22_2 := blk_frozen BK333.out 2
                have hfz22_3 := blk_frozen BK333.out 3
                have hfz22_4 := blk_frozen BK333.out 4
                have hfz22_5 := blk_frozen BK333.out 5
                have hfz22_6 := blk_frozen BK333.out 6
                have hfz22_7 := blk_frozen BK333.out 7
                have hfz22_8 := blk_frozen BK333.out 8
                have hfz22_9 := blk_frozen BK333.out 9
                have hfz22_10 := blk_frozen BK333.out 10
                have hfz22_11 := blk_frozen BK333.out 11
                go_wp2_with (first | ((with_reducible refine gate_callee (f := 32) rfl ?_); refine goesL_ (some 20) rfl rfl Try.func32 (by kernel_rfl) rfl #[.agg #[.int .i64 a0_0, .int .i64 a0_1, .int .i64 a0_2, .int .i64 a0_3, .int .i64 a0_4, .int .i64 a0_5, .int .i64 a0_6, .int .i64 a0_7, .int .i64 a0_8, .int .i64 a0_9, .int .i64 a0_10, .int .i64 a0_11]] rfl (by (try simp only [List.map_toArray, List.map_cons, List.map_nil]); first | done | rfl | (simp only [List.length_drop, List.length_take]; rfl)) ?_; (with_reducible refine (limit_Check.calls k a0_0 a0_1 a0_2 a0_3 a0_4 a0_5 a0_6 a0_7 a0_8 a0_9 a0_10 a0_11 t335 _ A10.out).mono ?_); rintro e w23 ⟨rfl, hb⟩; refine ⟨_, rfl, ?_⟩; have n0_ := Aside0.mk (blk_below (g := gb333) (o := .cells #[.int .i64 a0_0, .int .i64 a0_1, .int .i64 a0_2, .int .i64 a0_3, .int .i64 a0_4, .int .i64 a0_5, .int .i64 a0_6, .int .i64 a0_7, .int .i64 a0_8, .int .i64 a0_9, .int .i64 a0_10, .int .i64 a0_11] 23 (0, 0)) (by (with_reducible repeat (first | refine blk_drewN ?_ _ | refine blk_drew ?_ | refine blk_alloc ?_ _)); exact BK333.out) hb); have n1_ := Aside0.mk (below_step (by repeat (first | (with_reducible first | exact HB.out | apply below_alloc | apply pw_below_drewN | apply below_drew1 | refine below_set ?_ GE333.out) | exact HB.out)) hb); clear BK333; clear HB; have BK333 := n0_; have HB := n1_; clear n0_ n1_; (try clear hb); (try clear hb2); (try clear hk); (try clear hi); have hcz24_0 : w23.cell? ⟨gb333, 0, none⟩ = some (.int .i64 a0_0) := (blk_cell BK333.out 0).trans rfl; have hcz24_1 : w23.cell? ⟨gb333, 1, none⟩ = some (.int .i64 a0_1) := (blk_cell BK333.out 1).trans rfl; have hcz24_2 : w23.cell? ⟨gb333, 2, none⟩ = some (.int .i64 a0_2) := (blk_cell BK333.out 2).trans rfl; have hcz24_3 : w23.cell? ⟨gb333, 3, none⟩ = some (.int .i64 a0_3) := (blk_cell BK333.out 3).trans rfl; have hcz24_4 : w23.cell? ⟨gb333, 4, none⟩ = some (.int .i64 a0_4) := (blk_cell BK333.out 4).trans rfl; have hcz24_5 : w23.cell? ⟨gb333, 5, none⟩ = some (.int .i64 a0_5) := (blk_cell BK333.out 5).trans rfl; have hcz24_6 : w23.cell? ⟨gb333, 6, none⟩ = some (.int .i64 a0_6) := (blk_cell BK333.out 6).trans rfl; have hcz24_7 : w23.cell? ⟨gb333, 7, none⟩ = some (.int .i64 a0_7) := (blk_cell BK333.out 7).trans rfl; have hcz24_8 : w23.cell? ⟨gb333, 8, none⟩ = some (.int .i64 a0_8) := (blk_cell BK333.out 8).trans rfl; have hcz24_9 : w23.cell? ⟨gb333, 9, none⟩ = some (.int .i64 a0_9) := (blk_cell BK333.out 9).trans rfl; have hcz24_10 : w23.cell? ⟨gb333, 10, none⟩ = some (.int .i64 a0_10) := (blk_cell BK333.out 10).trans rfl; have hcz24_11 : w23.cell? ⟨gb333, 11, none⟩ = some (.int .i64 a0_11) := (blk_cell BK333.out 11).trans rfl; have hfz24_0 := blk_frozen BK333.out 0; have hfz24_1 := blk_frozen BK333.out 1; have hfz24_2 := blk_frozen BK333.out 2; have hfz24_3 := blk_frozen BK333.out 3; have hfz24_4 := blk_frozen BK333.out 4; have hfz24_5 := blk_frozen BK333.out 5; have hfz24_6 := blk_frozen BK333.out 6; have hfz24_7 := blk_frozen BK333.out 7; have hfz24_8 := blk_frozen BK333.out 8; have hfz24_9 := blk_frozen BK333.out 9; have hfz24_10 := blk_frozen BK333.out 10; have hfz24_11 := blk_frozen BK333.out 11))
                go_meet
                case rel => exact ⟨_, (true), (by first | rfl | (simp; done) | (simp [*]; done)), H', ⟨by first | omega | exact Nat.le_refl _⟩, ⟨by (with_reducible repeat (first | refine blk_drewN ?_ _ | refine blk_drew ?_ | refine blk_alloc ?_ _)); exact BK333.out⟩, ⟨by repeat (first | (with_reducible first | exact HB.out | apply below_alloc | apply pw_below_drewN | apply below_drew1 | refine below_set ?_ GE333.out) | exact HB.out)⟩⟩
              · rw [if_neg c21] at H
                have c21b0 : decide (a0_1 < (l3.length : Int)) = false := decide_eq_false c21
                clear c21
                have H' := Aside0.mk H
                clear H
                have hcz25_0 : w9.cell? ⟨gb333, 0, none⟩ = some (.int .i64 a0_0) := (blk_cell BK333.out 0).trans rfl
                have hcz25_1 : w9.cell? ⟨gb333, 1, none⟩ = some (.int .i64 a0_1) := (blk_cell BK333.out 1).trans rfl
                have hcz25_2 : w9.cell? ⟨gb333, 2, none⟩ = some (.int .i64 a0_2) := (blk_cell BK333.out 2).trans rfl
                have hcz25_3 : w9.cell? ⟨gb333, 3, none⟩ = some (.int .i64 a0_3) := (blk_cell BK333.out 3).trans rfl
                have hcz25_4 : w9.cell? ⟨gb333, 4, none⟩ = some (.int .i64 a0_4) := (blk_cell BK333.out 4).trans rfl
                have hcz25_5 : w9.cell? ⟨gb333, 5, none⟩ = some (.int .i64 a0_5) := (blk_cell BK333.out 5).trans rfl
                have hcz25_6 : w9.cell? ⟨gb333, 6, none⟩ = some (.int .i64 a0_6) := (blk_cell BK333.out 6).trans rfl
                have hcz25_7 : w9.cell? ⟨gb333, 7, none⟩ = some (.int .i64 a0_7) := (blk_cell BK333.out 7).trans rfl
                have hcz25_8 : w9.cell? ⟨gb333, 8, none⟩ = some (.int .i64 a0_8) := (blk_cell BK333.out 8).trans rfl
                have hcz25_9 : w9.cell? ⟨gb333, 9, none⟩ = some (.int .i64 a0_9) := (blk_cell BK333.out 9).trans rfl
                have hcz25_10 : w9.cell? ⟨gb333, 10, none⟩ = some (.int .i64 a0_10) := (blk_cell BK333.out 10).trans rfl
                have hcz25_11 : w9.cell? ⟨gb333, 11, none⟩ = some (.int .i64 a0_11) := (blk_cell BK333.out 11).trans rfl
                have hfz25_0 := blk_frozen BK333.out 0
                have hfz25_1 := blk_frozen BK333.out 1
                have hfz25_2 := blk_frozen BK333.out 2
                have hfz25_3 := blk_frozen BK333.out 3
                have hfz25_4 := blk_frozen BK333.out 4
                have hfz25_5 := blk_frozen BK333.out 5
                have hfz25_6 := blk_frozen BK333.out 6
                have hfz25_7 := blk_frozen BK333.out 7
                have hfz25_8 := blk_frozen BK333.out 8
                have hfz25_9 := blk_frozen BK333.out 9
                have hfz25_10 := blk_frozen BK333.out 10
                have hfz25_11 := blk_frozen BK333.out 11
                go_wp2_with (first | ((with_reducible refine gate_callee (f := 32) rfl ?_); refine goesL_ (some 20) rfl rfl Try.func32 (by kernel_rfl) rfl #[.agg #[.int .i64 a0_0, .int .i64 a0_1, .int .i64 a0_2, .int .i64 a0_3, .int .i64 a0_4, .int .i64 a0_5, .int .i64 a0_6, .int .i64 a0_7, .int .i64 a0_8, .int .i64 a0_9, .int .i64 a0_10, .int .i64 a0_11]] rfl (by (try simp only [List.map_toArray, List.map_cons, List.map_nil]); first | done | rfl | (simp only [List.length_drop, List.length_take]; rfl)) ?_; (with_reducible refine (limit_Check.calls k a0_0 a0_1 a0_2 a0_3 a0_4 a0_5 a0_6 a0_7 a0_8 a0_9 a0_10 a0_11 t335 _ A10.out).mono ?_); rintro e w26 ⟨rfl, hb⟩; refine ⟨_, rfl, ?_⟩; have n0_ := Aside0.mk (blk_below (g := gb333) (o := .cells #[.int .i64 a0_0, .int .i64 a0_1, .int .i64 a0_2, .int .i64 a0_3, .int .i64 a0_4, .int .i64 a0_5, .int .i64 a0_6, .int .i64 a0_7, .int .i64 a0_8, .int .i64 a0_9, .int .i64 a0_10, .int .i64 a0_11] 23 (0, 0)) (by (with_reducible repeat (first | refine blk_drewN ?_ _ | refine blk_drew ?_ | refine blk_alloc ?_ _)); exact BK333.out) hb); have n1_ := Aside0.mk (below_step (by repeat (first | (with_reducible first | exact HB.out | apply below_alloc | apply pw_below_drewN | apply below_drew1 | refine below_set ?_ GE333.out) | exact HB.out)) hb); clear BK333; clear HB; have BK333 := n0_; have HB := n1_; clear n0_ n1_; (try clear hb); (try clear hb2); (try clear hk); (try clear hi); have hcz27_0 : w26.cell? ⟨gb333, 0, none⟩ = some (.int .i64 a0_0) := (blk_cell BK333.out 0).trans rfl; have hcz27_1 : w26.cell? ⟨gb333, 1, none⟩ = some (.int .i64 a0_1) := (blk_cell BK333.out 1).trans rfl; have hcz27_2 : w26.cell? ⟨gb333, 2, none⟩ = some (.int .i64 a0_2) := (blk_cell BK333.out 2).trans rfl; have hcz27_3 : w26.cell? ⟨gb333, 3, none⟩ = some (.int .i64 a0_3) := (blk_cell BK333.out 3).trans rfl; have hcz27_4 : w26.cell? ⟨gb333, 4, none⟩ = some (.int .i64 a0_4) := (blk_cell BK333.out 4).trans rfl; have hcz27_5 : w26.cell? ⟨gb333, 5, none⟩ = some (.int .i64 a0_5) := (blk_cell BK333.out 5).trans rfl; have hcz27_6 : w26.cell? ⟨gb333, 6, none⟩ = some (.int .i64 a0_6) := (blk_cell BK333.out 6).trans rfl; have hcz27_7 : w26.cell? ⟨gb333, 7, none⟩ = some (.int .i64 a0_7) := (blk_cell BK333.out 7).trans rfl; have hcz27_8 : w26.cell? ⟨gb333, 8, none⟩ = some (.int .i64 a0_8) := (blk_cell BK333.out 8).trans rfl; have hcz27_9 : w26.cell? ⟨gb333, 9, none⟩ = some (.int .i64 a0_9) := (blk_cell BK333.out 9).trans rfl; have hcz27_10 : w26.cell? ⟨gb333, 10, none⟩ = some (.int .i64 a0_10) := (blk_cell BK333.out 10).trans rfl; have hcz27_11 : w26.cell? ⟨gb333, 11, none⟩ = some (.int .i64 a0_11) := (blk_cell BK333.out 11).trans rfl; have hfz27_0 := blk_frozen BK333.out 0; have hfz27_1 := blk_frozen BK333.out 1; have hfz27_2 := blk_frozen BK333.out 2; have hfz27_3 := blk_frozen BK333.out 3; have hfz27_4 := blk_frozen BK333.out 4; have hfz27_5 := blk_frozen BK333.out 5; have hfz27_6 := blk_frozen BK333.out 6; have hfz27_7 := blk_frozen BK333.out 7; have hfz27_8 := blk_frozen BK333.out 8; have hfz27_9 := blk_frozen BK333.out 9; have hfz27_10 := blk_frozen BK333.out 10; have hfz27_11 := blk_frozen BK333.out 11))
                go_meet
                case rel => exact ⟨_, (decide ((l2.length : Int) < (wrap64 ((wrap64 (2 * a0_1)) + 1)))), (by first | rfl | (simp; done) | (simp [*]; done)), H', ⟨by first | omega | exact Nat.le_refl _⟩, ⟨by (with_reducible repeat (first | refine blk_drewN ?_ _ | refine blk_drew ?_ | refine blk_alloc ?_ _)); exact BK333.out⟩, ⟨by repeat (first | (with_reducible first | exact HB.out | apply below_alloc | apply pw_below_drewN | apply below_drew1 | refine below_set ?_ GE333.out) | exact HB.out)⟩⟩
      · rw [if_neg c11] at H
        have c11b0 : (t335 == 0) = false := beq_eq_false_iff_ne.mpr c11
        have c11b1 : (t335 != 0) = true := bne_iff_ne.mpr c11
        (first | rw [c11b0] | (simp only [i64_w, i32_w]; rw [c11b0]) | skip)
        have H' := Aside0.mk H
        clear H
        have hcz28_0 : w9.cell? ⟨gb333, 0, none⟩ = some (.int .i64 a0_0) := (blk_cell BK333.out 0).trans rfl
        have hcz28_1 : w9.cell? ⟨gb333, 1, none⟩ = some (.int .i64 a0_1) := (blk_cell BK333.out 1).trans rfl
        have hcz28_2 : w9.cell? ⟨gb333, 2, none⟩ = some (.int .i64 a0_2) := (blk_cell BK333.out 2).trans rfl
        have hcz28_3 : w9.cell? ⟨gb333, 3, none⟩ = some (.int .i64 a0_3) := (blk_cell BK333.out 3).trans rfl
        have hcz28_4 : w9.cell? ⟨gb333, 4, none⟩ = some (.int .i64 a0_4) := (blk_cell BK333.out 4).trans rfl
        have hcz28_5 : w9.cell? ⟨gb333, 5, none⟩ = some (.int .i64 a0_5) := (blk_cell BK333.out 5).trans rfl
        have hcz28_6 : w9.cell? ⟨gb333, 6, none⟩ = some (.int .i64 a0_6) := (blk_cell BK333.out 6).trans rfl
        have hcz28_7 : w9.cell? ⟨gb333, 7, none⟩ = some (.int .i64 a0_7) := (blk_cell BK333.out 7).trans rfl
        have hcz28_8 : w9.cell? ⟨gb333, 8, none⟩ = some (.int .i64 a0_8) := (blk_cell BK333.out 8).trans rfl
        have hcz28_9 : w9.cell? ⟨gb333, 9, none⟩ = some (.int .i64 a0_9) := (blk_cell BK333.out 9).trans rfl
        have hcz28_10 : w9.cell? ⟨gb333, 10, none⟩ = some (.int .i64 a0_10) := (blk_cell BK333.out 10).trans rfl
        have hcz28_11 : w9.cell? ⟨gb333, 11, none⟩ = some (.int .i64 a0_11) := (blk_cell BK333.out 11).trans rfl
        have hfz28_0 := blk_frozen BK333.out 0
        have hfz28_1 := blk_frozen BK333.out 1
        have hfz28_2 := blk_frozen BK333.out 2
        have hfz28_3 := blk_frozen BK333.out 3
        have hfz28_4 := blk_frozen BK333.out 4
        have hfz28_5 := blk_frozen BK333.out 5
        have hfz28_6 := blk_frozen BK333.out 6
        have hfz28_7 := blk_frozen BK333.out 7
        have hfz28_8 := blk_frozen BK333.out 8
        have hfz28_9 := blk_frozen BK333.out 9
        have hfz28_10 := blk_frozen BK333.out 10
        have hfz28_11 := blk_frozen BK333.out 11
        go_wp2_with (first | ((with_reducible refine gate_callee (f := 32) rfl ?_); refine goesL_ (some 20) rfl rfl Try.func32 (by kernel_rfl) rfl #[.agg #[.int .i64 a0_0, .int .i64 a0_1, .int .i64 a0_2, .int .i64 a0_3, .int .i64 a0_4, .int .i64 a0_5, .int .i64 a0_6, .int .i64 a0_7, .int .i64 a0_8, .int .i64 a0_9, .int .i64 a0_10, .int .i64 a0_11]] rfl (by (try simp only [List.map_toArray, List.map_cons, List.map_nil]); first | done | rfl | (simp only [List.length_drop, List.length_take]; rfl)) ?_; (with_reducible refine (limit_Check.calls k a0_0 a0_1 a0_2 a0_3 a0_4 a0_5 a0_6 a0_7 a0_8 a0_9 a0_10 a0_11 t335 _ A10.out).mono ?_); rintro e w29 ⟨rfl, hb⟩; refine ⟨_, rfl, ?_⟩; have n0_ := Aside0.mk (blk_below (g := gb333) (o := .cells #[.int .i64 a0_0, .int .i64 a0_1, .int .i64 a0_2, .int .i64 a0_3, .int .i64 a0_4, .int .i64 a0_5, .int .i64 a0_6, .int .i64 a0_7, .int .i64 a0_8, .int .i64 a0_9, .int .i64 a0_10, .int .i64 a0_11] 23 (0, 0)) (by (with_reducible repeat (first | refine blk_drewN ?_ _ | refine blk_drew ?_ | refine blk_alloc ?_ _)); exact BK333.out) hb); have n1_ := Aside0.mk (below_step (by repeat (first | (with_reducible first | exact HB.out | apply below_alloc | apply pw_below_drewN | apply below_drew1 | refine below_set ?_ GE333.out) | exact HB.out)) hb); clear BK333; clear HB; have BK333 := n0_; have HB := n1_; clear n0_ n1_; (try clear hb); (try clear hb2); (try clear hk); (try clear hi)))
        go_meet
        case rel => exact ⟨_, (true), (by first | rfl | (simp; done) | (simp [*]; done)), H', ⟨by first | omega | exact Nat.le_refl _⟩, ⟨by (with_reducible repeat (first | refine blk_drewN ?_ _ | refine blk_drew ?_ | refine blk_alloc ?_ _)); exact BK333.out⟩, ⟨by repeat (first | (with_reducible first | exact HB.out | apply below_alloc | apply pw_below_drewN | apply below_drew1 | refine below_set ?_ GE333.out) | exact HB.out)⟩⟩
    case rest =>
      clear HC7
      try clear c1
      try clear c2
      try clear p2
      try clear c3
      try clear c6
      try clear p6
      try clear c11
      try clear c11b0
      try clear c11b1
      try clear c12
      try clear c12b0
      try clear c15
      try clear c15b0
      try clear c18
      try clear c18b0
      try clear c18b1
      try clear c21
      try clear c21b0
      try clear c23
      try clear hcz13_0
      try clear hcz13_1
      try clear hcz13_10
      try clear hcz13_11
      try clear hcz13_2
      try clear hcz13_3
      try clear hcz13_4
      try clear hcz13_5
      try clear hcz13_6
      try clear hcz13_7
      try clear hcz13_8
      try clear hcz13_9
      try clear hcz16_0
      try clear hcz16_1
      try clear hcz16_10
      try clear hcz16_11
      try clear hcz16_2
      try clear hcz16_3
      try clear hcz16_4
      try clear hcz16_5
      try clear hcz16_6
      try clear hcz16_7
      try clear hcz16_8
      try clear hcz16_9
      try clear hcz19_0
      try clear hcz19_1
      try clear hcz19_10
      try clear hcz19_11
      try clear hcz19_2
      try clear hcz19_3
      try clear hcz19_4
      try clear hcz19_5
      try clear hcz19_6
      try clear hcz19_7
      try clear hcz19_8
      try clear hcz19_9
      try clear hcz22_0
      try clear hcz22_1
      try clear hcz22_10
      try clear hcz22_11
      try clear hcz22_2
      try clear hcz22_3
      try clear hcz22_4
      try clear hcz22_5
      try clear hcz22_6
      try clear hcz22_7
      try clear hcz22_8
      try clear hcz22_9
      try clear hcz24_0
      try clear hcz24_1
      try clear hcz24_10
      try clear hcz24_11
      try clear hcz24_2
      try clear hcz24_3
      try clear hcz24_4
      try clear hcz24_5
      try clear hcz24_6
      try clear hcz24_7
      try clear hcz24_8
      try clear hcz24_9
      try clear hcz25_0
      try clear hcz25_1
      try clear hcz25_10
      try clear hcz25_11
      try clear hcz25_2
      try clear hcz25_3
      try clear hcz25_4
      try clear hcz25_5
      try clear hcz25_6
      try clear hcz25_7
      try clear hcz25_8
      try clear hcz25_9
      try clear hcz27_0
      try clear hcz27_1
      try clear hcz27_10
      try clear hcz27_11
      try clear hcz27_2
      try clear hcz27_3
      try clear hcz27_4
      try clear hcz27_5
      try clear hcz27_6
      try clear hcz27_7
      try clear hcz27_8
      try clear hcz27_9
      try clear hcz28_0
      try clear hcz28_1
      try clear hcz28_10
      try clear hcz28_11
      try clear hcz28_2
      try clear hcz28_3
      try clear hcz28_4
      try clear hcz28_5
      try clear hcz28_6
      try clear hcz28_7
      try clear hcz28_8
      try clear hcz28_9
      try clear hfz13_0
      try clear hfz13_1
      try clear hfz13_10
      try clear hfz13_11
      try clear hfz13_2
      try clear hfz13_3
      try clear hfz13_4
      try clear hfz13_5
      try clear hfz13_6
      try clear hfz13_7
      try clear hfz13_8
      try clear hfz13_9
      try clear hfz16_0
      try clear hfz16_1
      try clear hfz16_10
      try clear hfz16_11
      try clear hfz16_2
      try clear hfz16_3
      try clear hfz16_4
      try clear hfz16_5
      try clear hfz16_6
      try clear hfz16_7
      try clear hfz16_8
      try clear hfz16_9
      try clear hfz19_0
      try clear hfz19_1
      try clear hfz19_10
      try clear hfz19_11
      try clear hfz19_2
      try clear hfz19_3
      try clear hfz19_4
      try clear hfz19_5
      try clear hfz19_6
      try clear hfz19_7
      try clear hfz19_8
      try clear hfz19_9
      try clear hfz22_0
      try clear hfz22_1
      try clear hfz22_10
      try clear hfz22_11
      try clear hfz22_2
      try clear hfz22_3
      try clear hfz22_4
      try clear hfz22_5
      try clear hfz22_6
      try clear hfz22_7
      try clear hfz22_8
      try clear hfz22_9
      try clear hfz24_0
      try clear hfz24_1
      try clear hfz24_10
      try clear hfz24_11
      try clear hfz24_2
      try clear hfz24_3
      try clear hfz24_4
      try clear hfz24_5
      try clear hfz24_6
      try clear hfz24_7
      try clear hfz24_8
      try clear hfz24_9
      try clear hfz25_0
      try clear hfz25_1
      try clear hfz25_10
      try clear hfz25_11
      try clear hfz25_2
      try clear hfz25_3
      try clear hfz25_4
      try clear hfz25_5
      try clear hfz25_6
      try clear hfz25_7
      try clear hfz25_8
      try clear hfz25_9
      try clear hfz27_0
      try clear hfz27_1
      try clear hfz27_10
      try clear hfz27_11
      try clear hfz27_2
      try clear hfz27_3
      try clear hfz27_4
      try clear hfz27_5
      try clear hfz27_6
      try clear hfz27_7
      try clear hfz27_8
      try clear hfz27_9
      try clear hfz28_0
      try clear hfz28_1
      try clear hfz28_10
      try clear hfz28_11
      try clear hfz28_2
      try clear hfz28_3
      try clear hfz28_4
      try clear hfz28_5
      try clear hfz28_6
      try clear hfz28_7
      try clear hfz28_8
      try clear hfz28_9
      obtain ⟨kq, x50_6, rfl, HA, HJ6, BK333, HB⟩ := hcut
      cases kq with
      | zero => exact absurd HA.out (by simp [clepsydralaw16_AnchorHolds.j0])
      | succ kj6 =>
        have H := HA.out
        clear HA
        simp only [clepsydralaw16_AnchorHolds.j0] at H
        by_cases c30 : x50_6 = true
        · subst c30
          have H1 : (some true) = some r := by rw [if_pos rfl] at H; exact H
          clear H
          have H := H1
          clear H1
          obtain rfl := Option.some.inj H
          go_wp2
          go_ret
          exact ⟨by first | rfl | (simp [errW_none, errW_some] <;> rfl) | (simp [*, errW_none, errW_some] <;> rfl), by repeat (first | (with_reducible first | exact HB.out | apply below_alloc | apply pw_below_drewN | apply below_drew1 | refine below_set ?_ GE333.out) | exact HB.out)⟩
        · replace c30 := Bool.eq_false_iff.mpr c30
          subst c30
          have H1 : ((some (([] : List (S33)) : List (S33))).bind fun y336 => (if y336.length + l3.length < 8796093022208 then (clepsydralaw16_AnchorHolds.l0 kj6 a1 (y336 ++ l3) l2 (l2.length : Int) 0 a0_0 a0_1 a0_2 a0_3 a0_4 a0_5 a0_6 a0_7 a0_8 a0_9 a0_10 a0_11) else (none))) = some r := by rw [if_neg (show ¬ (false = true) by decide)] at H; exact H
          clear H
          have H := H1
          clear H1
          obtain ⟨y336, hy336⟩ : ∃ y_ : List (S33), y_ = (([] : List (S33))) := ⟨_, rfl⟩
          replace H : (if y336.length + l3.length < 8796093022208 then (clepsydralaw16_AnchorHolds.l0 kj6 a1 (y336 ++ l3) l2 (l2.length : Int) 0 a0_0 a0_1 a0_2 a0_3 a0_4 a0_5 a0_6 a0_7 a0_8 a0_9 a0_10 a0_11) else (none)) = some r := by first | (rw [hy336]; with_reducible exact H) | (have H2_ := (Option.bind_some _ _).symm.trans H; rw [hy336]; with_reducible exact H2_) | (have H2_ := (Option.bind_some _ _).symm.trans H; with_reducible exact H2_) | with_reducible exact H | (rw [hy336]; exact H) | exact H
          have Ny336 := Aside0.mk hy336
          clear hy336
          by_cases c31 : y336.length + l3.length < 8796093022208
          · rw [if_pos c31] at H
            have LMc31 := Aside0.mk c31
            clear c31
            obtain ⟨y339, hy339⟩ : ∃ y_ : List (S33), y_ = (y336 ++ l3) := ⟨_, rfl⟩
            replace H : (clepsydralaw16_AnchorHolds.l0 kj6 a1 y339 l2 (l2.length : Int) 0 a0_0 a0_1 a0_2 a0_3 a0_4 a0_5 a0_6 a0_7 a0_8 a0_9 a0_10 a0_11) = some r := by first | (rw [hy339]; with_reducible exact H) | (have H2_ := (Option.bind_some _ _).symm.trans H; rw [hy339]; with_reducible exact H2_) | (have H2_ := (Option.bind_some _ _).symm.trans H; with_reducible exact H2_) | with_reducible exact H | (rw [hy339]; exact H) | exact H
            have Ny339 := Aside0.mk hy339
            clear hy339
            have H' := Aside0.mk H
            clear H
            go_wp2_with (first | ((with_reducible refine gate_dst (N := 51) rfl ?_); (try (refine gate_guard (by rfl) ?_; dsimp only)); refine Kd.R_lit k33 _ 33 ?hg (N := 51) ?hd (xs := ([] : List (S33))) (inner := []) (ok := fun _ => True) (okp := fun _ => True) ?hr ?hp (fun _ hk => hk) trivial (Below.refl _ _) (Nat.le_refl _) (by simp) ?_; (case hd => rfl); (case hg => rfl); (case hr => first | (go_simp; done) | (go_simp; rfl)); (case hp => exact (Reps.none _ _)); intro v337 w32 ho33 hb hg_ hnew_; clear hg_ hnew_; (first | rw [← Ny336.out] at ho33 | (simp only [Int.reduceToNat] at ho33; rw [← Ny336.out] at ho33)); have n0_ := Aside0.mk (Kd.R_lower ho33 (below_size (by repeat (first | (with_reducible first | exact HB.out | apply below_alloc | apply pw_below_drewN | apply below_drew1 | refine below_set ?_ GE333.out) | exact HB.out)))); have n1_ := Aside0.mk (blk_below (g := gb333) (o := .cells #[.int .i64 a0_0, .int .i64 a0_1, .int .i64 a0_2, .int .i64 a0_3, .int .i64 a0_4, .int .i64 a0_5, .int .i64 a0_6, .int .i64 a0_7, .int .i64 a0_8, .int .i64 a0_9, .int .i64 a0_10, .int .i64 a0_11] 23 (0, 0)) (by (with_reducible repeat (first | refine blk_drewN ?_ _ | refine blk_drew ?_ | refine blk_alloc ?_ _)); exact BK333.out) hb); have n2_ := Aside0.mk (below_step (by repeat (first | (with_reducible first | exact HB.out | apply below_alloc | apply pw_below_drewN | apply below_drew1 | refine below_set ?_ GE333.out) | exact HB.out)) hb); clear BK333; clear HB; have HO338 := n0_; have BK333 := n1_; have HB := n2_; clear n0_ n1_ n2_; clear hb ho33) | ((with_reducible refine gate_builtin (b := .append) (xs := #[.tmp 51, .tmp 52]) rfl ?_); (try (refine gate_guard (by rfl) ?_; dsimp only)); at_builtin; refine Kd.R_append_rows k33 (w0 := w) w.heap.size rfl (.tmp 51) (.tmp 52) 53 33 (.agg #[(.int .i64 0), (.int .i64 0)]) 16 rfl Try.underlying53 info33 rfl (by decide) (by omega) v337 y336 l3 _ _ _ (fun _ => True) (fun _ => False) rfl rfl ?aO ?aR (fun _ _ h => h) (fun _ h => h.elim) ?aF ?aB ?aS ?aL ?_; (case aR => repeat (first | exact (Kd.C_below HR3.out HB.out) | (with_reducible refine Kd.C_alloc ?_ _) | (with_reducible refine Kd.C_drewN ?_ _) | (with_reducible refine Kd.C_drew ?_))); (case aB => exact (by repeat (first | (with_reducible first | exact HB.out | apply below_alloc | apply pw_below_drewN | apply below_drew1 | refine below_set ?_ GE333.out) | exact HB.out))); (case aF => exact (fun _ _ => trivial)); (case aO => exact (by (with_reducible repeat (first | apply Kd.R_alloc | apply Kd.R_drewN | apply Kd.R_drew)); exact HO338.out)); (case aS => exact (below_size (by repeat (first | (with_reducible first | exact HB.out | apply below_alloc | apply pw_below_drewN | apply below_drew1 | refine below_set ?_ GE333.out) | exact HB.out)))); (case aL => have := LMc31.out; omega); intro v340 w34 ho hb hg hat; rw [← Ny339.out] at ho; have n0_ := Aside0.mk (blk_grown (g := gb333) (o := .cells #[.int .i64 a0_0, .int .i64 a0_1, .int .i64 a0_2, .int .i64 a0_3, .int .i64 a0_4, .int .i64 a0_5, .int .i64 a0_6, .int .i64 a0_7, .int .i64 a0_8, .int .i64 a0_9, .int .i64 a0_10, .int .i64 a0_11] 23 (0, 0)) (by (with_reducible repeat (first | refine blk_drewN ?_ _ | refine blk_drew ?_ | refine blk_alloc ?_ _)); exact BK333.out) hg (Kd.R_ne HO338.out BK333.out (by decide))); have n1_ := Aside0.mk (hb); have n2_ := Aside0.mk (ho); clear BK333; clear HB; clear HO338; have BK333 := n0_; have HB := n1_; have HO341 := n2_; clear n0_ n1_ n2_; clear ho hb hg hat))
            go_loopg [9, 56] kj6 (fun kq v9 v56 w' => ∃ (x9_2 : List (S33)) (x56_2 : Int), v56 = .int .i64 x56_2 ∧ Aside0 (clepsydralaw16_AnchorHolds.l0 kq a1 x9_2 l2 (l2.length : Int) x56_2 a0_0 a0_1 a0_2 a0_3 a0_4 a0_5 a0_6 a0_7 a0_8 a0_9 a0_10 a0_11 = some r) ∧ Aside0 (kq ≤ kj6) ∧ Aside0 (Kd.R k33 33 w' w.heap.size (fun _ => True) v9 x9_2) ∧ Aside0 (w'.heap[gb333]? = some (.cells #[.int .i64 a0_0, .int .i64 a0_1, .int .i64 a0_2, .int .i64 a0_3, .int .i64 a0_4, .int .i64 a0_5, .int .i64 a0_6, .int .i64 a0_7, .int .i64 a0_8, .int .i64 a0_9, .int .i64 a0_10, .int .i64 a0_11] 23 (0, 0))) ∧ Aside0 (Below w.heap.size w w'))
            case atStart => exact ⟨(y339), (0), (by first | rfl | (simp; done) | (simp [*]; done)), H', ⟨Nat.le_refl _⟩, ⟨by (with_reducible repeat (first | apply Kd.R_alloc | apply Kd.R_drewN | apply Kd.R_drew)); exact HO341.out⟩, ⟨by (with_reducible repeat (first | refine blk_drewN ?_ _ | refine blk_drew ?_ | refine blk_alloc ?_ _)); exact BK333.out⟩, ⟨by repeat (first | (with_reducible first | exact HB.out | apply below_alloc | apply pw_below_drewN | apply below_drew1 | refine below_set ?_ GE333.out) | exact HB.out)⟩⟩
            case round =>
              clear H'
              try clear c1
              try clear c2
              try clear p2
              try clear c3
              try clear c6
              try clear p6
              try clear c11
              try clear c11b0
              try clear c11b1
              try clear c12
              try clear c12b0
              try clear c15
              try clear c15b0
              try clear c18
              try clear c18b0
              try clear c18b1
              try clear c21
              try clear c21b0
              try clear c23
              try clear c30
              try clear c31
              try clear c32
              try clear hcz13_0
              try clear hcz13_1
              try clear hcz13_10
              try clear hcz13_11
              try clear hcz13_2
              try clear hcz13_3
              try clear hcz13_4
              try clear hcz13_5
              try clear hcz13_6
              try clear hcz13_7
              try clear hcz13_8
              try clear hcz13_9
              try clear hcz16_0
              try clear hcz16_1
              try clear hcz16_10
              try clear hcz16_11
              try clear hcz16_2
              try clear hcz16_3
              try clear hcz16_4
              try clear hcz16_5
              try clear hcz16_6
              try clear hcz16_7
              try clear hcz16_8
              try clear hcz16_9
              try clear hcz19_0
              try clear hcz19_1
              try clear hcz19_10
              try clear hcz19_11
              try clear hcz19_2
              try clear hcz19_3
              try clear hcz19_4
              try clear hcz19_5
              try clear hcz19_6
              try clear hcz19_7
              try clear hcz19_8
              try clear hcz19_9
              try clear hcz22_0
              try clear hcz22_1
              try clear hcz22_10
              try clear hcz22_11
              try clear hcz22_2
              try clear hcz22_3
              try clear hcz22_4
              try clear hcz22_5
              try clear hcz22_6
              try clear hcz22_7
              try clear hcz22_8
              try clear hcz22_9
              try clear hcz24_0
              try clear hcz24_1
              try clear hcz24_10
              try clear hcz24_11
              try clear hcz24_2
              try clear hcz24_3
              try clear hcz24_4
              try clear hcz24_5
              try clear hcz24_6
              try clear hcz24_7
              try clear hcz24_8
              try clear hcz24_9
              try clear hcz25_0
              try clear hcz25_1
              try clear hcz25_10
              try clear hcz25_11
              try clear hcz25_2
              try clear hcz25_3
              try clear hcz25_4
              try clear hcz25_5
              try clear hcz25_6
              try clear hcz25_7
              try clear hcz25_8
              try clear hcz25_9
              try clear hcz27_0
              try clear hcz27_1
              try clear hcz27_10
              try clear hcz27_11
              try clear hcz27_2
              try clear hcz27_3
              try clear hcz27_4
              try clear hcz27_5
              try clear hcz27_6
              try clear hcz27_7
              try clear hcz27_8
              try clear hcz27_9
              try clear hcz28_0
              try clear hcz28_1
              try clear hcz28_10
              try clear hcz28_11
              try clear hcz28_2
              try clear hcz28_3
              try clear hcz28_4
              try clear hcz28_5
              try clear hcz28_6
              try clear hcz28_7
              try clear hcz28_8
              try clear hcz28_9
              try clear hfz13_0
              try clear hfz13_1
              try clear hfz13_10
              try clear hfz13_11
              try clear hfz13_2
              try clear hfz13_3
              try clear hfz13_4
              try clear hfz13_5
              try clear hfz13_6
              try clear hfz13_7
              try clear hfz13_8
              try clear hfz13_9
              try clear hfz16_0
              try clear hfz16_1
              try clear hfz16_10
              try clear hfz16_11
              try clear hfz16_2
              try clear hfz16_3
              try clear hfz16_4
              try clear hfz16_5
              try clear hfz16_6
              try clear hfz16_7
              try clear hfz16_8
              try clear hfz16_9
              try clear hfz19_0
              try clear hfz19_1
              try clear hfz19_10
              try clear hfz19_11
              try clear hfz19_2
              try clear hfz19_3
              try clear hfz19_4
              try clear hfz19_5
              try clear hfz19_6
              try clear hfz19_7
              try clear hfz19_8
              try clear hfz19_9
              try clear hfz22_0
              try clear hfz22_1
              try clear hfz22_10
              try clear hfz22_11
              try clear hfz22_2
              try clear hfz22_3
              try clear hfz22_4
              try clear hfz22_5
              try clear hfz22_6
              try clear hfz22_7
              try clear hfz22_8
              try clear hfz22_9
              try clear hfz24_0
              try clear hfz24_1
              try clear hfz24_10
              try clear hfz24_11
              try clear hfz24_2
              try clear hfz24_3
              try clear hfz24_4
              try clear hfz24_5
              try clear hfz24_6
              try clear hfz24_7
              try clear hfz24_8
              try clear hfz24_9
              try clear hfz25_0
              try clear hfz25_1
              try clear hfz25_10
              try clear hfz25_11
              try clear hfz25_2
              try clear hfz25_3
              try clear hfz25_4
              try clear hfz25_5
              try clear hfz25_6
              try clear hfz25_7
              try clear hfz25_8
              try clear hfz25_9
              try clear hfz27_0
              try clear hfz27_1
              try clear hfz27_10
              try clear hfz27_11
              try clear hfz27_2
              try clear hfz27_3
              try clear hfz27_4
              try clear hfz27_5
              try clear hfz27_6
              try clear hfz27_7
              try clear hfz27_8
              try clear hfz27_9
              try clear hfz28_0
              try clear hfz28_1
              try clear hfz28_10
              try clear hfz28_11
              try clear hfz28_2
              try clear hfz28_3
              try clear hfz28_4
              try clear hfz28_5
              try clear hfz28_6
              try clear hfz28_7
              try clear hfz28_8
              try clear hfz28_9
              try clear p2
              try clear p6
              obtain ⟨x9_2, x56_2, rfl, HA, HK2, HO_9, BK333, HB⟩ := hrel
              cases gk with
              | zero => exact absurd HA.out (by simp [clepsydralaw16_AnchorHolds.l0])
              | succ k2 =>
                have H := HA.out
                clear HA
                simp only [clepsydralaw16_AnchorHolds.l0] at H
                by_cases c35 : x56_2 < (l2.length : Int)
                · rw [if_pos c35] at H
                  have c35b0 : decide (x56_2 < (l2.length : Int)) = true := decide_eq_true c35
                  clear c35
                  by_cases c36 : 0 ≤ x56_2
                  · rw [if_pos c36] at H
                    have c36b0 : decide (0 ≤ x56_2) = true := decide_eq_true c36
                    clear c36
                    by_cases c37 : x56_2 < (l2.length : Int)
                    · rw [if_pos c37] at H
                      have c37b0 : decide (x56_2 < (l2.length : Int)) = true := decide_eq_true c37
                      clear c37
                      have HC38 := Aside0.mk H
                      clear H
                      have p347 : 0 ≤ (x56_2 : Int) := of_decide_eq_true (by first | (with_reducible assumption) | assumption)
                      have q347 : x56_2 < (l2.length : Int) := of_decide_eq_true (by first | (with_reducible assumption) | assumption)
                      obtain ⟨ad347, e347, hx347_0, hx347_1, hx347_2⟩ := at_T66 HR2.out x56_2 p347 q347
                      cases e347
                      replace hx347_0 := (HB.out.cell (World.block_lt_of_cell? w _ hx347_0)).trans hx347_0
                      replace hx347_1 := (HB.out.cell (World.block_lt_of_cell? w _ hx347_1)).trans hx347_1
                      replace hx347_2 := (HB.out.cell (World.block_lt_of_cell? w _ hx347_2)).trans hx347_2
                      replace p347 := eq_true p347
                      replace q347 := eq_true q347
                      go_upto_region 9 with (first | ((with_reducible refine gate_dst (N := 11) rfl ?_); (try (refine gate_guard (by rfl) ?_; dsimp only)); refine box_event ?hg (N := 11) ?hd (cs := #[.int .i64 0, .int .i64 0, .int .i64 0]) (t := 66) ?hr ?_; (case hd => rfl); (case hg => rfl); (case hr => first | (go_simp; done) | (go_simp; rfl)); intro gb348 hg w39 hbox hb; have n0_ := Aside0.mk (Kd.R_below (by (with_reducible repeat (first | apply Kd.R_alloc | apply Kd.R_drewN | apply Kd.R_drew)); exact HO_9.out) hb); have n1_ := Aside0.mk (blk_below (g := gb333) (o := .cells #[.int .i64 a0_0, .int .i64 a0_1, .int .i64 a0_2, .int .i64 a0_3, .int .i64 a0_4, .int .i64 a0_5, .int .i64 a0_6, .int .i64 a0_7, .int .i64 a0_8, .int .i64 a0_9, .int .i64 a0_10, .int .i64 a0_11] 23 (0, 0)) (by (with_reducible repeat (first | refine blk_drewN ?_ _ | refine blk_drew ?_ | refine blk_alloc ?_ _)); exact BK333.out) hb); have n2_ := Aside0.mk (below_step (by repeat (first | (with_reducible first | exact HB.out | apply below_alloc | apply pw_below_drewN | apply below_drew1 | refine below_set ?_ GE333.out) | exact HB.out)) hb); have n3_ := Aside0.mk (hbox); have n4_ := Aside0.mk ((by rw [hg]; exact (below_size (by repeat (first | (with_reducible first | exact HB.out | apply below_alloc | apply pw_below_drewN | apply below_drew1 | refine below_set ?_ GE333.out) | exact HB.out))) : w.heap.size ≤ gb348)); have n5_ := Aside0.mk ((by rw [hg]; exact (below_size (by repeat (first | (with_reducible first | exact HB.out | apply below_alloc | apply pw_below_drewN | apply below_drew1 | refine below_set ?_ GE333.out) | exact HB.out))) : w.heap.size ≤ gb348)); have n6_ := Aside0.mk ((by rw [hg]; exact Nat.ne_of_lt (blk_lt (g := gb333) (o := .cells #[.int .i64 a0_0, .int .i64 a0_1, .int .i64 a0_2, .int .i64 a0_3, .int .i64 a0_4, .int .i64 a0_5, .int .i64 a0_6, .int .i64 a0_7, .int .i64 a0_8, .int .i64 a0_9, .int .i64 a0_10, .int .i64 a0_11] 23 (0, 0)) (by (with_reducible repeat (first | refine blk_drewN ?_ _ | refine blk_drew ?_ | refine blk_alloc ?_ _)); exact BK333.out)) : gb333 ≠ gb348)); have n7_ := Aside0.mk ((by rw [hg]; exact Nat.ne_of_gt (blk_lt (g := gb333) (o := .cells #[.int .i64 a0_0, .int .i64 a0_1, .int .i64 a0_2, .int .i64 a0_3, .int .i64 a0_4, .int .i64 a0_5, .int .i64 a0_6, .int .i64 a0_7, .int .i64 a0_8, .int .i64 a0_9, .int .i64 a0_10, .int .i64 a0_11] 23 (0, 0)) (by (with_reducible repeat (first | refine blk_drewN ?_ _ | refine blk_drew ?_ | refine blk_alloc ?_ _)); exact BK333.out)) : gb348 ≠ gb333)); clear HO_9; clear BK333; clear HB; have HO_9 := n0_; have BK333 := n1_; have HB := n2_; have BK348 := n3_; have GW348 := n4_; have GE348 := n5_; have NB333_348 := n6_; have NB348_333 := n7_; clear n0_ n1_ n2_ n3_ n4_ n5_ n6_ n7_; clear hb hbox hg; have hnb40 := NB348_333.out; have hnc40 := NB333_348.out; have hcz41_0 : w39.cell? ⟨gb348, 0, none⟩ = some (.int .i64 0) := (blk_cell BK348.out 0).trans rfl; have hcz41_1 : w39.cell? ⟨gb348, 1, none⟩ = some (.int .i64 0) := (blk_cell BK348.out 1).trans rfl; have hcz41_2 : w39.cell? ⟨gb348, 2, none⟩ = some (.int .i64 0) := (blk_cell BK348.out 2).trans rfl; have hfz41_0 := blk_frozen BK348.out 0; have hfz41_1 := blk_frozen BK348.out 1; have hfz41_2 := blk_frozen BK348.out 2))
                      (try simp only [Act.put, List.setIfInBounds_toArray, List.set_cons_zero, List.set_cons_succ])
                      go_cut [104] (fun v104 wc => ∃ (kq : Nat) (x104_37 : Bool), v104 = .bool x104_37 ∧ Aside0 (clepsydralaw16_AnchorHolds.j2 kq a1 x9_2 l2 (l2.length : Int) x56_2 x104_37 a0_0 a0_1 a0_2 a0_3 a0_4 a0_5 a0_6 a0_7 a0_8 a0_9 a0_10 a0_11 ((rd_T66 l2 x56_2).f0) ((rd_T66 l2 x56_2).f1) ((rd_T66 l2 x56_2).f2) = some r) ∧ Aside0 (kq ≤ k2) ∧ Aside0 (Kd.R k33 33 wc w.heap.size (fun _ => True) u9 x9_2) ∧ Aside0 (wc.heap[gb333]? = some (.cells #[.int .i64 a0_0, .int .i64 a0_1, .int .i64 a0_2, .int .i64 a0_3, .int .i64 a0_4, .int .i64 a0_5, .int .i64 a0_6, .int .i64 a0_7, .int .i64 a0_8, .int .i64 a0_9, .int .i64 a0_10, .int .i64 a0_11] 23 (0, 0))) ∧ Aside0 (wc.heap[gb348]? = some (.cells #[.int .i64 ((rd_T66 l2 x56_2).f0), .int .i64 ((rd_T66 l2 x56_2).f1), .int .i64 ((rd_T66 l2 x56_2).f2)] 66 (0, 0))) ∧ Aside0 (Below w.heap.size w wc))
                      case first =>
                        have H := HC38.out
                        clear HC38
                        by_cases c42 : ((rd_T66 l2 x56_2).f0) > a0_7
                        · rw [if_pos c42] at H
                          have c42b0 : decide (a0_7 < ((rd_T66 l2 x56_2).f0)) = true := decide_eq_true c42
                          clear c42
                          (first | rw [c42b0] | (simp only [i64_w, i32_w]; rw [c42b0]) | skip)
                          have H' := Aside0.mk H
                          clear H
                          have hnb43 := NB348_333.out
                          have hnc43 := NB333_348.out
                          have hcz44_0 : w39.cell? ⟨gb348, 0, none⟩ = some (.int .i64 0) := (blk_cell BK348.out 0).trans rfl
                          have hcz44_1 : w39.cell? ⟨gb348, 1, none⟩ = some (.int .i64 0) := (blk_cell BK348.out 1).trans rfl
                          have hcz44_2 : w39.cell? ⟨gb348, 2, none⟩ = some (.int .i64 0) := (blk_cell BK348.out 2).trans rfl
                          have hfz44_0 := blk_frozen BK348.out 0
                          have hfz44_1 := blk_frozen BK348.out 1
                          have hfz44_2 := blk_frozen BK348.out 2
                          have hcz45_0 : w39.cell? ⟨gb333, 0, none⟩ = some (.int .i64 a0_0) := (blk_cell BK333.out 0).trans rfl
                          have hcz45_1 : w39.cell? ⟨gb333, 1, none⟩ = some (.int .i64 a0_1) := (blk_cell BK333.out 1).trans rfl
                          have hcz45_2 : w39.cell? ⟨gb333, 2, none⟩ = some (.int .i64 a0_2) := (blk_cell BK333.out 2).trans rfl
                          have hcz45_3 : w39.cell? ⟨gb333, 3, none⟩ = some (.int .i64 a0_3) := (blk_cell BK333.out 3).trans rfl
                          have hcz45_4 : w39.cell? ⟨gb333, 4, none⟩ = some (.int .i64 a0_4) := (blk_cell BK333.out 4).trans rfl
                          have hcz45_5 : w39.cell? ⟨gb333, 5, none⟩ = some (.int .i64 a0_5) := (blk_cell BK333.out 5).trans rfl
                          have hcz45_6 : w39.cell? ⟨gb333, 6, none⟩ = some (.int .i64 a0_6) := (blk_cell BK333.out 6).trans rfl
                          have hcz45_7 : w39.cell? ⟨gb333, 7, none⟩ = some (.int .i64 a0_7) := (blk_cell BK333.out 7).trans rfl
                          have hcz45_8 : w39.cell? ⟨gb333, 8, none⟩ = some (.int .i64 a0_8) := (blk_cell BK333.out 8).trans rfl
                          have hcz45_9 : w39.cell? ⟨gb333, 9, none⟩ = some (.int .i64 a0_9) := (blk_cell BK333.out 9).trans rfl
                          have hcz45_10 : w39.cell? ⟨gb333, 10, none⟩ = some (.int .i64 a0_10) := (blk_cell BK333.out 10).trans rfl
                          have hcz45_11 : w39.cell? ⟨gb333, 11, none⟩ = some (.int .i64 a0_11) := (blk_cell BK333.out 11).trans rfl
                          have hfz45_0 := blk_frozen BK333.out 0
                          have hfz45_1 := blk_frozen BK333.out 1
                          have hfz45_2 := blk_frozen BK333.out 2
                          have hfz45_3 := blk_frozen BK333.out 3
                          have hfz45_4 := blk_frozen BK333.out 4
                          have hfz45_5 := blk_frozen BK333.out 5
                          have hfz45_6 := blk_frozen BK333.out 6
                          have hfz45_7 := blk_frozen BK333.out 7
                          have hfz45_8 := blk_frozen BK333.out 8
                          have hfz45_9 := blk_frozen BK333.out 9
                          have hfz45_10 := blk_frozen BK333.out 10
                          have hfz45_11 := blk_frozen BK333.out 11
                          go_wp2
                          go_meet
                          case rel => exact ⟨_, (true), (by first | rfl | (simp; done) | (simp [*]; done)), H', ⟨by have := HJ6.out; have := HK2.out; first | omega | exact Nat.le_refl _⟩, ⟨by (with_reducible repeat (first | apply Kd.R_alloc | apply Kd.R_drewN | apply Kd.R_drew)); exact Kd.R_mono (Kd.R_far (p := ⟨gb348, 2, none⟩) (Kd.R_far (p := ⟨gb348, 1, none⟩) (Kd.R_far (p := ⟨gb348, 0, none⟩) (Kd.R_types HO_9.out BK348.out (by decide)) (fun _ hk => hk.2) (.int .i64 ((rd_T66 l2 x56_2).f0))) (fun _ hk => hk.2) (.int .i64 ((rd_T66 l2 x56_2).f1))) (fun _ hk => hk.2) (.int .i64 ((rd_T66 l2 x56_2).f2))) (fun _ hk => trivial)⟩, ⟨by (with_reducible repeat (first | refine blk_drewN ?_ _ | refine blk_drew ?_ | refine blk_alloc ?_ _)); refine blk_far ?_ NB333_348.out _; (with_reducible repeat (first | refine blk_drewN ?_ _ | refine blk_drew ?_ | refine blk_alloc ?_ _)); refine blk_far ?_ NB333_348.out _; (with_reducible repeat (first | refine blk_drewN ?_ _ | refine blk_drew ?_ | refine blk_alloc ?_ _)); refine blk_far ?_ NB333_348.out _; (with_reducible repeat (first | refine blk_drewN ?_ _ | refine blk_drew ?_ | refine blk_alloc ?_ _)); exact BK333.out⟩, ⟨by (with_reducible repeat (first | refine blk_drewN ?_ _ | refine blk_drew ?_ | refine blk_alloc ?_ _)); refine blk_put (cs := #[.int .i64 ((rd_T66 l2 x56_2).f0), .int .i64 ((rd_T66 l2 x56_2).f1), .int .i64 0]) ?_ 2 _ rfl; (with_reducible repeat (first | refine blk_drewN ?_ _ | refine blk_drew ?_ | refine blk_alloc ?_ _)); refine blk_put (cs := #[.int .i64 ((rd_T66 l2 x56_2).f0), .int .i64 0, .int .i64 0]) ?_ 1 _ rfl; (with_reducible repeat (first | refine blk_drewN ?_ _ | refine blk_drew ?_ | refine blk_alloc ?_ _)); refine blk_put (cs := #[.int .i64 0, .int .i64 0, .int .i64 0]) ?_ 0 _ rfl; (with_reducible repeat (first | refine blk_drewN ?_ _ | refine blk_drew ?_ | refine blk_alloc ?_ _)); exact BK348.out⟩, ⟨by repeat (first | (with_reducible first | exact HB.out | apply below_alloc | apply pw_below_drewN | apply below_drew1 | refine below_set ?_ GE333.out | refine below_set ?_ GE348.out) | exact HB.out)⟩⟩
                        · rw [if_neg c42] at H
                          have c42b0 : decide (a0_7 < ((rd_T66 l2 x56_2).f0)) = false := decide_eq_false c42
                          clear c42
                          (first | rw [c42b0] | (simp only [i64_w, i32_w]; rw [c42b0]) | skip)
                          by_cases c46 : ((rd_T66 l2 x56_2).f0) < (wrap64 (-a0_7))
                          · rw [if_pos c46] at H
                            have c46b0 : decide (((rd_T66 l2 x56_2).f0) < (wrap64 (-a0_7))) = true := decide_eq_true c46
                            clear c46
                            have H' := Aside0.mk H
                            clear H
                            have hnb47 := NB348_333.out
                            have hnc47 := NB333_348.out
                            have hcz48_0 : w39.cell? ⟨gb348, 0, none⟩ = some (.int .i64 0) := (blk_cell BK348.out 0).trans rfl
                            have hcz48_1 : w39.cell? ⟨gb348, 1, none⟩ = some (.int .i64 0) := (blk_cell BK348.out 1).trans rfl
                            have hcz48_2 : w39.cell? ⟨gb348, 2, none⟩ = some (.int .i64 0) := (blk_cell BK348.out 2).trans rfl
                            have hfz48_0 := blk_frozen BK348.out 0
                            have hfz48_1 := blk_frozen BK348.out 1
                            have hfz48_2 := blk_frozen BK348.out 2
                            have hcz49_0 : w39.cell? ⟨gb333, 0, none⟩ = some (.int .i64 a0_0) := (blk_cell BK333.out 0).trans rfl
                            have hcz49_1 : w39.cell? ⟨gb333, 1, none⟩ = some (.int .i64 a0_1) := (blk_cell BK333.out 1).trans rfl
                            have hcz49_2 : w39.cell? ⟨gb333, 2, none⟩ = some (.int .i64 a0_2) := (blk_cell BK333.out 2).trans rfl
                            have hcz49_3 : w39.cell? ⟨gb333, 3, none⟩ = some (.int .i64 a0_3) := (blk_cell BK333.out 3).trans rfl
                            have hcz49_4 : w39.cell? ⟨gb333, 4, none⟩ = some (.int .i64 a0_4) := (blk_cell BK333.out 4).trans rfl
                            have hcz49_5 : w39.cell? ⟨gb333, 5, none⟩ = some (.int .i64 a0_5) := (blk_cell BK333.out 5).trans rfl
                            have hcz49_6 : w39.cell? ⟨gb333, 6, none⟩ = some (.int .i64 a0_6) := (blk_cell BK333.out 6).trans rfl
                            have hcz49_7 : w39.cell? ⟨gb333, 7, none⟩ = some (.int .i64 a0_7) := (blk_cell BK333.out 7).trans rfl
                            have hcz49_8 : w39.cell? ⟨gb333, 8, none⟩ = some (.int .i64 a0_8) := (blk_cell BK333.out 8).trans rfl
                            have hcz49_9 : w39.cell? ⟨gb333, 9, none⟩ = some (.int .i64 a0_9) := (blk_cell BK333.out 9).trans rfl
                            have hcz49_10 : w39.cell? ⟨gb333, 10, none⟩ = some (.int .i64 a0_10) := (blk_cell BK333.out 10).trans rfl
                            have hcz49_11 : w39.cell? ⟨gb333, 11, none⟩ = some (.int .i64 a0_11) := (blk_cell BK333.out 11).trans rfl
                            have hfz49_0 := blk_frozen BK333.out 0
                            have hfz49_1 := blk_frozen BK333.out 1
                            have hfz49_2 := blk_frozen BK333.out 2
                            have hfz49_3 := blk_frozen BK333.out 3
                            have hfz49_4 := blk_frozen BK333.out 4
                            have hfz49_5 := blk_frozen BK333.out 5
                            have hfz49_6 := blk_frozen BK333.out 6
                            have hfz49_7 := blk_frozen BK333.out 7
                            have hfz49_8 := blk_frozen BK333.out 8
                            have hfz49_9 := blk_frozen BK333.out 9
                            have hfz49_10 := blk_frozen BK333.out 10
                            have hfz49_11 := blk_frozen BK333.out 11
                            go_wp2
                            go_meet
                            case rel => exact ⟨_, (true), (by first | rfl | (simp; done) | (simp [*]; done)), H', ⟨by have := HJ6.out; have := HK2.out; first | omega | exact Nat.le_refl _⟩, ⟨by (with_reducible repeat (first | apply Kd.R_alloc | apply Kd.R_drewN | apply Kd.R_drew)); exact Kd.R_mono (Kd.R_far (p := ⟨gb348, 2, none⟩) (Kd.R_far (p := ⟨gb348, 1, none⟩) (Kd.R_far (p := ⟨gb348, 0, none⟩) (Kd.R_types HO_9.out BK348.out (by decide)) (fun _ hk => hk.2) (.int .i64 ((rd_T66 l2 x56_2).f0))) (fun _ hk => hk.2) (.int .i64 ((rd_T66 l2 x56_2).f1))) (fun _ hk => hk.2) (.int .i64 ((rd_T66 l2 x56_2).f2))) (fun _ hk => trivial)⟩, ⟨by (with_reducible repeat (first | refine blk_drewN ?_ _ | refine blk_drew ?_ | refine blk_alloc ?_ _)); refine blk_far ?_ NB333_348.out _; (with_reducible repeat (first | refine blk_drewN ?_ _ | refine blk_drew ?_ | refine blk_alloc ?_ _)); refine blk_far ?_ NB333_348.out _; (with_reducible repeat (first | refine blk_drewN ?_ _ | refine blk_drew ?_ | refine blk_alloc ?_ _)); refine blk_far ?_ NB333_348.out _; (with_reducible repeat (first | refine blk_drewN ?_ _ | refine blk_drew ?_ | refine blk_alloc ?_ _)); exact BK333.out⟩, ⟨by (with_reducible repeat (first | refine blk_drewN ?_ _ | refine blk_drew ?_ | refine blk_alloc ?_ _)); refine blk_put (cs := #[.int .i64 ((rd_T66 l2 x56_2).f0), .int .i64 ((rd_T66 l2 x56_2).f1), .int .i64 0]) ?_ 2 _ rfl; (with_reducible repeat (first | refine blk_drewN ?_ _ | refine blk_drew ?_ | refine blk_alloc ?_ _)); refine blk_put (cs := #[.int .i64 ((rd_T66 l2 x56_2).f0), .int .i64 0, .int .i64 0]) ?_ 1 _ rfl; (with_reducible repeat (first | refine blk_drewN ?_ _ | refine blk_drew ?_ | refine blk_alloc ?_ _)); refine blk_put (cs := #[.int .i64 0, .int .i64 0, .int .i64 0]) ?_ 0 _ rfl; (with_reducible repeat (first | refine blk_drewN ?_ _ | refine blk_drew ?_ | refine blk_alloc ?_ _)); exact BK348.out⟩, ⟨by repeat (first | (with_reducible first | exact HB.out | apply below_alloc | apply pw_below_drewN | apply below_drew1 | refine below_set ?_ GE333.out | refine below_set ?_ GE348.out) | exact HB.out)⟩⟩
                          · rw [if_neg c46] at H
                            have c46b0 : decide (((rd_T66 l2 x56_2).f0) < (wrap64 (-a0_7))) = false := decide_eq_false c46
                            clear c46
                            by_cases c50 : ((rd_T66 l2 x56_2).f1) > a0_5
                            · rw [if_pos c50] at H
                              have c50b0 : decide (a0_5 < ((rd_T66 l2 x56_2).f1)) = true := decide_eq_true c50
                              clear c50
                              have H' := Aside0.mk H
                              clear H
                              have hnb51 := NB348_333.out
                              have hnc51 := NB333_348.out
                              have hcz52_0 : w39.cell? ⟨gb348, 0, none⟩ = some (.int .i64 0) := (blk_cell BK348.out 0).trans rfl
                              have hcz52_1 : w39.cell? ⟨gb348, 1, none⟩ = some (.int .i64 0) := (blk_cell BK348.out 1).trans rfl
                              have hcz52_2 : w39.cell? ⟨gb348, 2, none⟩ = some (.int .i64 0) := (blk_cell BK348.out 2).trans rfl
                              have hfz52_0 := blk_frozen BK348.out 0
                              have hfz52_1 := blk_frozen BK348.out 1
                              have hfz52_2 := blk_frozen BK348.out 2
                              have hcz53_0 : w39.cell? ⟨gb333, 0, none⟩ = some (.int .i64 a0_0) := (blk_cell BK333.out 0).trans rfl
                              have hcz53_1 : w39.cell? ⟨gb333, 1, none⟩ = some (.int .i64 a0_1) := (blk_cell BK333.out 1).trans rfl
                              have hcz53_2 : w39.cell? ⟨gb333, 2, none⟩ = some (.int .i64 a0_2) := (blk_cell BK333.out 2).trans rfl
                              have hcz53_3 : w39.cell? ⟨gb333, 3, none⟩ = some (.int .i64 a0_3) := (blk_cell BK333.out 3).trans rfl
                              have hcz53_4 : w39.cell? ⟨gb333, 4, none⟩ = some (.int .i64 a0_4) := (blk_cell BK333.out 4).trans rfl
                              have hcz53_5 : w39.cell? ⟨gb333, 5, none⟩ = some (.int .i64 a0_5) := (blk_cell BK333.out 5).trans rfl
                              have hcz53_6 : w39.cell? ⟨gb333, 6, none⟩ = some (.int .i64 a0_6) := (blk_cell BK333.out 6).trans rfl
                              have hcz53_7 : w39.cell? ⟨gb333, 7, none⟩ = some (.int .i64 a0_7) := (blk_cell BK333.out 7).trans rfl
                              have hcz53_8 : w39.cell? ⟨gb333, 8, none⟩ = some (.int .i64 a0_8) := (blk_cell BK333.out 8).trans rfl
                              have hcz53_9 : w39.cell? ⟨gb333, 9, none⟩ = some (.int .i64 a0_9) := (blk_cell BK333.out 9).trans rfl
                              have hcz53_10 : w39.cell? ⟨gb333, 10, none⟩ = some (.int .i64 a0_10) := (blk_cell BK333.out 10).trans rfl
                              have hcz53_11 : w39.cell? ⟨gb333, 11, none⟩ = some (.int .i64 a0_11) := (blk_cell BK333.out 11).trans rfl
                              have hfz53_0 := blk_frozen BK333.out 0
                              have hfz53_1 := blk_frozen BK333.out 1
                              have hfz53_2 := blk_frozen BK333.out 2
                              have hfz53_3 := blk_frozen BK333.out 3
                              have hfz53_4 := blk_frozen BK333.out 4
                              have hfz53_5 := blk_frozen BK333.out 5
                              have hfz53_6 := blk_frozen BK333.out 6
                              have hfz53_7 := blk_frozen BK333.out 7
                              have hfz53_8 := blk_frozen BK333.out 8
                              have hfz53_9 := blk_frozen BK333.out 9
                              have hfz53_10 := blk_frozen BK333.out 10
                              have hfz53_11 := blk_frozen BK333.out 11
                              go_wp2
                              go_meet
                              case rel => exact ⟨_, (true), (by first | rfl | (simp; done) | (simp [*]; done)), H', ⟨by have := HJ6.out; have := HK2.out; first | omega | exact Nat.le_refl _⟩, ⟨by (with_reducible repeat (first | apply Kd.R_alloc | apply Kd.R_drewN | apply Kd.R_drew)); exact Kd.R_mono (Kd.R_far (p := ⟨gb348, 2, none⟩) (Kd.R_far (p := ⟨gb348, 1, none⟩) (Kd.R_far (p := ⟨gb348, 0, none⟩) (Kd.R_types HO_9.out BK348.out (by decide)) (fun _ hk => hk.2) (.int .i64 ((rd_T66 l2 x56_2).f0))) (fun _ hk => hk.2) (.int .i64 ((rd_T66 l2 x56_2).f1))) (fun _ hk => hk.2) (.int .i64 ((rd_T66 l2 x56_2).f2))) (fun _ hk => trivial)⟩, ⟨by (with_reducible repeat (first | refine blk_drewN ?_ _ | refine blk_drew ?_ | refine blk_alloc ?_ _)); refine blk_far ?_ NB333_348.out _; (with_reducible repeat (first | refine blk_drewN ?_ _ | refine blk_drew ?_ | refine blk_alloc ?_ _)); refine blk_far ?_ NB333_348.out _; (with_reducible repeat (first | refine blk_drewN ?_ _ | refine blk_drew ?_ | refine blk_alloc ?_ _)); refine blk_far ?_ NB333_348.out _; (with_reducible repeat (first | refine blk_drewN ?_ _ | refine blk_drew ?_ | refine blk_alloc ?_ _)); exact BK333.out⟩, ⟨by (with_reducible repeat (first | refine blk_drewN ?_ _ | refine blk_drew ?_ | refine blk_alloc ?_ _)); refine blk_put (cs := #[.int .i64 ((rd_T66 l2 x56_2).f0), .int .i64 ((rd_T66 l2 x56_2).f1), .int .i64 0]) ?_ 2 _ rfl; (with_reducible repeat (first | refine blk_drewN ?_ _ | refine blk_drew ?_ | refine blk_alloc ?_ _)); refine blk_put (cs := #[.int .i64 ((rd_T66 l2 x56_2).f0), .int .i64 0, .int .i64 0]) ?_ 1 _ rfl; (with_reducible repeat (first | refine blk_drewN ?_ _ | refine blk_drew ?_ | refine blk_alloc ?_ _)); refine blk_put (cs := #[.int .i64 0, .int .i64 0, .int .i64 0]) ?_ 0 _ rfl; (with_reducible repeat (first | refine blk_drewN ?_ _ | refine blk_drew ?_ | refine blk_alloc ?_ _)); exact BK348.out⟩, ⟨by repeat (first | (with_reducible first | exact HB.out | apply below_alloc | apply pw_below_drewN | apply below_drew1 | refine below_set ?_ GE333.out | refine below_set ?_ GE348.out) | exact HB.out)⟩⟩
                            · rw [if_neg c50] at H
                              have c50b0 : decide (a0_5 < ((rd_T66 l2 x56_2).f1)) = false := decide_eq_false c50
                              clear c50
                              by_cases c54 : ((rd_T66 l2 x56_2).f1) < (wrap64 (a0_5 - a0_6))
                              · rw [if_pos c54] at H
                                have c54b0 : decide (((rd_T66 l2 x56_2).f1) < (wrap64 (a0_5 - a0_6))) = true := decide_eq_true c54
                                clear c54
                                have H' := Aside0.mk H
                                clear H
                                have hnb55 := NB348_333.out
                                have hnc55 := NB333_348.out
                                have hcz56_0 : w39.cell? ⟨gb348, 0, none⟩ = some (.int .i64 0) := (blk_cell BK348.out 0).trans rfl
                                have hcz56_1 : w39.cell? ⟨gb348, 1, none⟩ = some (.int .i64 0) := (blk_cell BK348.out 1).trans rfl
                                have hcz56_2 : w39.cell? ⟨gb348, 2, none⟩ = some (.int .i64 0) := (blk_cell BK348.out 2).trans rfl
                                have hfz56_0 := blk_frozen BK348.out 0
                                have hfz56_1 := blk_frozen BK348.out 1
                                have hfz56_2 := blk_frozen BK348.out 2
                                have hcz57_0 : w39.cell? ⟨gb333, 0, none⟩ = some (.int .i64 a0_0) := (blk_cell BK333.out 0).trans rfl
                                have hcz57_1 : w39.cell? ⟨gb333, 1, none⟩ = some (.int .i64 a0_1) := (blk_cell BK333.out 1).trans rfl
                                have hcz57_2 : w39.cell? ⟨gb333, 2, none⟩ = some (.int .i64 a0_2) := (blk_cell BK333.out 2).trans rfl
                                have hcz57_3 : w39.cell? ⟨gb333, 3, none⟩ = some (.int .i64 a0_3) := (blk_cell BK333.out 3).trans rfl
                                have hcz57_4 : w39.cell? ⟨gb333, 4, none⟩ = some (.int .i64 a0_4) := (blk_cell BK333.out 4).trans rfl
                                have hcz57_5 : w39.cell? ⟨gb333, 5, none⟩ = some (.int .i64 a0_5) := (blk_cell BK333.out 5).trans rfl
                                have hcz57_6 : w39.cell? ⟨gb333, 6, none⟩ = some (.int .i64 a0_6) := (blk_cell BK333.out 6).trans rfl
                                have hcz57_7 : w39.cell? ⟨gb333, 7, none⟩ = some (.int .i64 a0_7) := (blk_cell BK333.out 7).trans rfl
                                have hcz57_8 : w39.cell? ⟨gb333, 8, none⟩ = some (.int .i64 a0_8) := (blk_cell BK333.out 8).trans rfl
                                have hcz57_9 : w39.cell? ⟨gb333, 9, none⟩ = some (.int .i64 a0_9) := (blk_cell BK333.out 9).trans rfl
                                have hcz57_10 : w39.cell? ⟨gb333, 10, none⟩ = some (.int .i64 a0_10) := (blk_cell BK333.out 10).trans rfl
                                have hcz57_11 : w39.cell? ⟨gb333, 11, none⟩ = some (.int .i64 a0_11) := (blk_cell BK333.out 11).trans rfl
                                have hfz57_0 := blk_frozen BK333.out 0
                                have hfz57_1 := blk_frozen BK333.out 1
                                have hfz57_2 := blk_frozen BK333.out 2
                                have hfz57_3 := blk_frozen BK333.out 3
                                have hfz57_4 := blk_frozen BK333.out 4
                                have hfz57_5 := blk_frozen BK333.out 5
                                have hfz57_6 := blk_frozen BK333.out 6
                                have hfz57_7 := blk_frozen BK333.out 7
                                have hfz57_8 := blk_frozen BK333.out 8
                                have hfz57_9 := blk_frozen BK333.out 9
                                have hfz57_10 := blk_frozen BK333.out 10
                                have hfz57_11 := blk_frozen BK333.out 11
                                go_wp2
                                go_meet
                                case rel => exact ⟨_, (true), (by first | rfl | (simp; done) | (simp [*]; done)), H', ⟨by have := HJ6.out; have := HK2.out; first | omega | exact Nat.le_refl _⟩, ⟨by (with_reducible repeat (first | apply Kd.R_alloc | apply Kd.R_drewN | apply Kd.R_drew)); exact Kd.R_mono (Kd.R_far (p := ⟨gb348, 2, none⟩) (Kd.R_far (p := ⟨gb348, 1, none⟩) (Kd.R_far (p := ⟨gb348, 0, none⟩) (Kd.R_types HO_9.out BK348.out (by decide)) (fun _ hk => hk.2) (.int .i64 ((rd_T66 l2 x56_2).f0))) (fun _ hk => hk.2) (.int .i64 ((rd_T66 l2 x56_2).f1))) (fun _ hk => hk.2) (.int .i64 ((rd_T66 l2 x56_2).f2))) (fun _ hk => trivial)⟩, ⟨by (with_reducible repeat (first | refine blk_drewN ?_ _ | refine blk_drew ?_ | refine blk_alloc ?_ _)); refine blk_far ?_ NB333_348.out _; (with_reducible repeat (first | refine blk_drewN ?_ _ | refine blk_drew ?_ | refine blk_alloc ?_ _)); refine blk_far ?_ NB333_348.out _; (with_reducible repeat (first | refine blk_drewN ?_ _ | refine blk_drew ?_ | refine blk_alloc ?_ _)); refine blk_far ?_ NB333_348.out _; (with_reducible repeat (first | refine blk_drewN ?_ _ | refine blk_drew ?_ | refine blk_alloc ?_ _)); exact BK333.out⟩, ⟨by (with_reducible repeat (first | refine blk_drewN ?_ _ | refine blk_drew ?_ | refine blk_alloc ?_ _)); refine blk_put (cs := #[.int .i64 ((rd_T66 l2 x56_2).f0), .int .i64 ((rd_T66 l2 x56_2).f1), .int .i64 0]) ?_ 2 _ rfl; (with_reducible repeat (first | refine blk_drewN ?_ _ | refine blk_drew ?_ | refine blk_alloc ?_ _)); refine blk_put (cs := #[.int .i64 ((rd_T66 l2 x56_2).f0), .int .i64 0, .int .i64 0]) ?_ 1 _ rfl; (with_reducible repeat (first | refine blk_drewN ?_ _ | refine blk_drew ?_ | refine blk_alloc ?_ _)); refine blk_put (cs := #[.int .i64 0, .int .i64 0, .int .i64 0]) ?_ 0 _ rfl; (with_reducible repeat (first | refine blk_drewN ?_ _ | refine blk_drew ?_ | refine blk_alloc ?_ _)); exact BK348.out⟩, ⟨by repeat (first | (with_reducible first | exact HB.out | apply below_alloc | apply pw_below_drewN | apply below_drew1 | refine below_set ?_ GE333.out | refine below_set ?_ GE348.out) | exact HB.out)⟩⟩
                              · rw [if_neg c54] at H
                                have c54b0 : decide (((rd_T66 l2 x56_2).f1) < (wrap64 (a0_5 - a0_6))) = false := decide_eq_false c54
                                clear c54
                                by_cases c58 : ((rd_T66 l2 x56_2).f2) > a0_4
                                · rw [if_pos c58] at H
                                  have c58b0 : decide (a0_4 < ((rd_T66 l2 x56_2).f2)) = true := decide_eq_true c58
                                  clear c58
                                  have H' := Aside0.mk H
                                  clear H
                                  have hnb59 := NB348_333.out
                                  have hnc59 := NB333_348.out
                                  have hcz60_0 : w39.cell? ⟨gb348, 0, none⟩ = some (.int .i64 0) := (blk_cell BK348.out 0).trans rfl
                                  have hcz60_1 : w39.cell? ⟨gb348, 1, none⟩ = some (.int .i64 0) := (blk_cell BK348.out 1).trans rfl
                                  have hcz60_2 : w39.cell? ⟨gb348, 2, none⟩ = some (.int .i64 0) := (blk_cell BK348.out 2).trans rfl
                                  have hfz60_0 := blk_frozen BK348.out 0
                                  have hfz60_1 := blk_frozen BK348.out 1
                                  have hfz60_2 := blk_frozen BK348.out 2
                                  have hcz61_0 : w39.cell? ⟨gb333, 0, none⟩ = some (.int .i64 a0_0) := (blk_cell BK333.out 0).trans rfl
                                  have hcz61_1 : w39.cell? ⟨gb333, 1, none⟩ = some (.int .i64 a0_1) := (blk_cell BK333.out 1).trans rfl
                                  have hcz61_2 : w39.cell? ⟨gb333, 2, none⟩ = some (.int .i64 a0_2) := (blk_cell BK333.out 2).trans rfl
                                  have hcz61_3 : w39.cell? ⟨gb333, 3, none⟩ = some (.int .i64 a0_3) := (blk_cell BK333.out 3).trans rfl
                                  have hcz61_4 : w39.cell? ⟨gb333, 4, none⟩ = some (.int .i64 a0_4) := (blk_cell BK333.out 4).trans rfl
                                  have hcz61_5 : w39.cell? ⟨gb333, 5, none⟩ = some (.int .i64 a0_5) := (blk_cell BK333.out 5).trans rfl
                                  have hcz61_6 : w39.cell? ⟨gb333, 6, none⟩ = some (.int .i64 a0_6) := (blk_cell BK333.out 6).trans rfl
                                  have hcz61_7 : w39.cell? ⟨gb333, 7, none⟩ = some (.int .i64 a0_7) := (blk_cell BK333.out 7).trans rfl
                                  have hcz61_8 : w39.cell? ⟨gb333, 8, none⟩ = some (.int .i64 a0_8) := (blk_cell BK333.out 8).trans rfl
                                  have hcz61_9 : w39.cell? ⟨gb333, 9, none⟩ = some (.int .i64 a0_9) := (blk_cell BK333.out 9).trans rfl
                                  have hcz61_10 : w39.cell? ⟨gb333, 10, none⟩ = some (.int .i64 a0_10) := (blk_cell BK333.out 10).trans rfl
                                  have hcz61_11 : w39.cell? ⟨gb333, 11, none⟩ = some (.int .i64 a0_11) := (blk_cell BK333.out 11).trans rfl
                                  have hfz61_0 := blk_frozen BK333.out 0
                                  have hfz61_1 := blk_frozen BK333.out 1
                                  have hfz61_2 := blk_frozen BK333.out 2
                                  have hfz61_3 := blk_frozen BK333.out 3
                                  have hfz61_4 := blk_frozen BK333.out 4
                                  have hfz61_5 := blk_frozen BK333.out 5
                                  have hfz61_6 := blk_frozen BK333.out 6
                                  have hfz61_7 := blk_frozen BK333.out 7
                                  have hfz61_8 := blk_frozen BK333.out 8
                                  have hfz61_9 := blk_frozen BK333.out 9
                                  have hfz61_10 := blk_frozen BK333.out 10
                                  have hfz61_11 := blk_frozen BK333.out 11
                                  go_wp2
                                  go_meet
                                  case rel => exact ⟨_, (true), (by first | rfl | (simp; done) | (simp [*]; done)), H', ⟨by have := HJ6.out; have := HK2.out; first | omega | exact Nat.le_refl _⟩, ⟨by (with_reducible repeat (first | apply Kd.R_alloc | apply Kd.R_drewN | apply Kd.R_drew)); exact Kd.R_mono (Kd.R_far (p := ⟨gb348, 2, none⟩) (Kd.R_far (p := ⟨gb348, 1, none⟩) (Kd.R_far (p := ⟨gb348, 0, none⟩) (Kd.R_types HO_9.out BK348.out (by decide)) (fun _ hk => hk.2) (.int .i64 ((rd_T66 l2 x56_2).f0))) (fun _ hk => hk.2) (.int .i64 ((rd_T66 l2 x56_2).f1))) (fun _ hk => hk.2) (.int .i64 ((rd_T66 l2 x56_2).f2))) (fun _ hk => trivial)⟩, ⟨by (with_reducible repeat (first | refine blk_drewN ?_ _ | refine blk_drew ?_ | refine blk_alloc ?_ _)); refine blk_far ?_ NB333_348.out _; (with_reducible repeat (first | refine blk_drewN ?_ _ | refine blk_drew ?_ | refine blk_alloc ?_ _)); refine blk_far ?_ NB333_348.out _; (with_reducible repeat (first | refine blk_drewN ?_ _ | refine blk_drew ?_ | refine blk_alloc ?_ _)); refine blk_far ?_ NB333_348.out _; (with_reducible repeat (first | refine blk_drewN ?_ _ | refine blk_drew ?_ | refine blk_alloc ?_ _)); exact BK333.out⟩, ⟨by (with_reducible repeat (first | refine blk_drewN ?_ _ | refine blk_drew ?_ | refine blk_alloc ?_ _)); refine blk_put (cs := #[.int .i64 ((rd_T66 l2 x56_2).f0), .int .i64 ((rd_T66 l2 x56_2).f1), .int .i64 0]) ?_ 2 _ rfl; (with_reducible repeat (first | refine blk_drewN ?_ _ | refine blk_drew ?_ | refine blk_alloc ?_ _)); refine blk_put (cs := #[.int .i64 ((rd_T66 l2 x56_2).f0), .int .i64 0, .int .i64 0]) ?_ 1 _ rfl; (with_reducible repeat (first | refine blk_drewN ?_ _ | refine blk_drew ?_ | refine blk_alloc ?_ _)); refine blk_put (cs := #[.int .i64 0, .int .i64 0, .int .i64 0]) ?_ 0 _ rfl; (with_reducible repeat (first | refine blk_drewN ?_ _ | refine blk_drew ?_ | refine blk_alloc ?_ _)); exact BK348.out⟩, ⟨by repeat (first | (with_reducible first | exact HB.out | apply below_alloc | apply pw_below_drewN | apply below_drew1 | refine below_set ?_ GE333.out | refine below_set ?_ GE348.out) | exact HB.out)⟩⟩
                                · rw [if_neg c58] at H
                                  have c58b0 : decide (a0_4 < ((rd_T66 l2 x56_2).f2)) = false := decide_eq_false c58
                                  clear c58
                                  have H' := Aside0.mk H
                                  clear H
                                  have hnb62 := NB348_333.out
                                  have hnc62 := NB333_348.out
                                  have hcz63_0 : w39.cell? ⟨gb348, 0, none⟩ = some (.int .i64 0) := (blk_cell BK348.out 0).trans rfl
                                  have hcz63_1 : w39.cell? ⟨gb348, 1, none⟩ = some (.int .i64 0) := (blk_cell BK348.out 1).trans rfl
                                  have hcz63_2 : w39.cell? ⟨gb348, 2, none⟩ = some (.int .i64 0) := (blk_cell BK348.out 2).trans rfl
                                  have hfz63_0 := blk_frozen BK348.out 0
                                  have hfz63_1 := blk_frozen BK348.out 1
                                  have hfz63_2 := blk_frozen BK348.out 2
                                  have hcz64_0 : w39.cell? ⟨gb333, 0, none⟩ = some (.int .i64 a0_0) := (blk_cell BK333.out 0).trans rfl
                                  have hcz64_1 : w39.cell? ⟨gb333, 1, none⟩ = some (.int .i64 a0_1) := (blk_cell BK333.out 1).trans rfl
                                  have hcz64_2 : w39.cell? ⟨gb333, 2, none⟩ = some (.int .i64 a0_2) := (blk_cell BK333.out 2).trans rfl
                                  have hcz64_3 : w39.cell? ⟨gb333, 3, none⟩ = some (.int .i64 a0_3) := (blk_cell BK333.out 3).trans rfl
                                  have hcz64_4 : w39.cell? ⟨gb333, 4, none⟩ = some (.int .i64 a0_4) := (blk_cell BK333.out 4).trans rfl
                                  have hcz64_5 : w39.cell? ⟨gb333, 5, none⟩ = some (.int .i64 a0_5) := (blk_cell BK333.out 5).trans rfl
                                  have hcz64_6 : w39.cell? ⟨gb333, 6, none⟩ = some (.int .i64 a0_6) := (blk_cell BK333.out 6).trans rfl
                                  have hcz64_7 : w39.cell? ⟨gb333, 7, none⟩ = some (.int .i64 a0_7) := (blk_cell BK333.out 7).trans rfl
                                  have hcz64_8 : w39.cell? ⟨gb333, 8, none⟩ = some (.int .i64 a0_8) := (blk_cell BK333.out 8).trans rfl
                                  have hcz64_9 : w39.cell? ⟨gb333, 9, none⟩ = some (.int .i64 a0_9) := (blk_cell BK333.out 9).trans rfl
                                  have hcz64_10 : w39.cell? ⟨gb333, 10, none⟩ = some (.int .i64 a0_10) := (blk_cell BK333.out 10).trans rfl
                                  have hcz64_11 : w39.cell? ⟨gb333, 11, none⟩ = some (.int .i64 a0_11) := (blk_cell BK333.out 11).trans rfl
                                  have hfz64_0 := blk_frozen BK333.out 0
                                  have hfz64_1 := blk_frozen BK333.out 1
                                  have hfz64_2 := blk_frozen BK333.out 2
                                  have hfz64_3 := blk_frozen BK333.out 3
                                  have hfz64_4 := blk_frozen BK333.out 4
                                  have hfz64_5 := blk_frozen BK333.out 5
                                  have hfz64_6 := blk_frozen BK333.out 6
                                  have hfz64_7 := blk_frozen BK333.out 7
                                  have hfz64_8 := blk_frozen BK333.out 8
                                  have hfz64_9 := blk_frozen BK333.out 9
                                  have hfz64_10 := blk_frozen BK333.out 10
                                  have hfz64_11 := blk_frozen BK333.out 11
                                  go_wp2
                                  go_meet
                                  case rel => exact ⟨_, (decide (((rd_T66 l2 x56_2).f2) < (wrap64 (-a0_4)))), (by first | rfl | (simp; done) | (simp [*]; done)), H', ⟨by have := HJ6.out; have := HK2.out; first | omega | exact Nat.le_refl _⟩, ⟨by (with_reducible repeat (first | apply Kd.R_alloc | apply Kd.R_drewN | apply Kd.R_drew)); exact Kd.R_mono (Kd.R_far (p := ⟨gb348, 2, none⟩) (Kd.R_far (p := ⟨gb348, 1, none⟩) (Kd.R_far (p := ⟨gb348, 0, none⟩) (Kd.R_types HO_9.out BK348.out (by decide)) (fun _ hk => hk.2) (.int .i64 ((rd_T66 l2 x56_2).f0))) (fun _ hk => hk.2) (.int .i64 ((rd_T66 l2 x56_2).f1))) (fun _ hk => hk.2) (.int .i64 ((rd_T66 l2 x56_2).f2))) (fun _ hk => trivial)⟩, ⟨by (with_reducible repeat (first | refine blk_drewN ?_ _ | refine blk_drew ?_ | refine blk_alloc ?_ _)); refine blk_far ?_ NB333_348.out _; (with_reducible repeat (first | refine blk_drewN ?_ _ | refine blk_drew ?_ | refine blk_alloc ?_ _)); refine blk_far ?_ NB333_348.out _; (with_reducible repeat (first | refine blk_drewN ?_ _ | refine blk_drew ?_ | refine blk_alloc ?_ _)); refine blk_far ?_ NB333_348.out _; (with_reducible repeat (first | refine blk_drewN ?_ _ | refine blk_drew ?_ | refine blk_alloc ?_ _)); exact BK333.out⟩, ⟨by (with_reducible repeat (first | refine blk_drewN ?_ _ | refine blk_drew ?_ | refine blk_alloc ?_ _)); refine blk_put (cs := #[.int .i64 ((rd_T66 l2 x56_2).f0), .int .i64 ((rd_T66 l2 x56_2).f1), .int .i64 0]) ?_ 2 _ rfl; (with_reducible repeat (first | refine blk_drewN ?_ _ | refine blk_drew ?_ | refine blk_alloc ?_ _)); refine blk_put (cs := #[.int .i64 ((rd_T66 l2 x56_2).f0), .int .i64 0, .int .i64 0]) ?_ 1 _ rfl; (with_reducible repeat (first | refine blk_drewN ?_ _ | refine blk_drew ?_ | refine blk_alloc ?_ _)); refine blk_put (cs := #[.int .i64 0, .int .i64 0, .int .i64 0]) ?_ 0 _ rfl; (with_reducible repeat (first | refine blk_drewN ?_ _ | refine blk_drew ?_ | refine blk_alloc ?_ _)); exact BK348.out⟩, ⟨by repeat (first | (with_reducible first | exact HB.out | apply below_alloc | apply pw_below_drewN | apply below_drew1 | refine below_set ?_ GE333.out | refine below_set ?_ GE348.out) | exact HB.out)⟩⟩
                      case rest =>
                        clear HC38
                        try clear c1
                        try clear c2
                        try clear p2
                        try clear c3
                        try clear p3
                        try clear q3
                        try clear hx3
                        try clear c4
                        try clear c5
                        try clear c6
                        try clear p6
                        try clear c11
                        try clear c11b0
                        try clear c11b1
                        try clear c12
                        try clear c12b0
                        try clear c15
                        try clear c15b0
                        try clear c18
                        try clear c18b0
                        try clear c18b1
                        try clear c21
                        try clear c21b0
                        try clear c23
                        try clear c30
                        try clear c31
                        try clear c32
                        try clear p34
                        try clear q34
                        try clear hx34
                        try clear c35
                        try clear c35b0
                        try clear c36
                        try clear c36b0
                        try clear c37
                        try clear c37b0
                        try clear c40
                        try clear c42
                        try clear c42b0
                        try clear c43
                        try clear c46
                        try clear c46b0
                        try clear c47
                        try clear c50
                        try clear c50b0
                        try clear c51
                        try clear c54
                        try clear c54b0
                        try clear c55
                        try clear c58
                        try clear c58b0
                        try clear c59
                        try clear c62
                        try clear p64
                        try clear hcz13_0
                        try clear hcz13_1
                        try clear hcz13_10
                        try clear hcz13_11
                        try clear hcz13_2
                        try clear hcz13_3
                        try clear hcz13_4
                        try clear hcz13_5
                        try clear hcz13_6
                        try clear hcz13_7
                        try clear hcz13_8
                        try clear hcz13_9
                        try clear hcz16_0
                        try clear hcz16_1
                        try clear hcz16_10
                        try clear hcz16_11
                        try clear hcz16_2
                        try clear hcz16_3
                        try clear hcz16_4
                        try clear hcz16_5
                        try clear hcz16_6
                        try clear hcz16_7
                        try clear hcz16_8
                        try clear hcz16_9
                        try clear hcz19_0
                        try clear hcz19_1
                        try clear hcz19_10
                        try clear hcz19_11
                        try clear hcz19_2
                        try clear hcz19_3
                        try clear hcz19_4
                        try clear hcz19_5
                        try clear hcz19_6
                        try clear hcz19_7
                        try clear hcz19_8
                        try clear hcz19_9
                        try clear hcz22_0
                        try clear hcz22_1
                        try clear hcz22_10
                        try clear hcz22_11
                        try clear hcz22_2
                        try clear hcz22_3
                        try clear hcz22_4
                        try clear hcz22_5
                        try clear hcz22_6
                        try clear hcz22_7
                        try clear hcz22_8
                        try clear hcz22_9
                        try clear hcz24_0
                        try clear hcz24_1
                        try clear hcz24_10
                        try clear hcz24_11
                        try clear hcz24_2
                        try clear hcz24_3
                        try clear hcz24_4
                        try clear hcz24_5
                        try clear hcz24_6
                        try clear hcz24_7
                        try clear hcz24_8
                        try clear hcz24_9
                        try clear hcz25_0
                        try clear hcz25_1
                        try clear hcz25_10
                        try clear hcz25_11
                        try clear hcz25_2
                        try clear hcz25_3
                        try clear hcz25_4
                        try clear hcz25_5
                        try clear hcz25_6
                        try clear hcz25_7
                        try clear hcz25_8
                        try clear hcz25_9
                        try clear hcz27_0
                        try clear hcz27_1
                        try clear hcz27_10
                        try clear hcz27_11
                        try clear hcz27_2
                        try clear hcz27_3
                        try clear hcz27_4
                        try clear hcz27_5
                        try clear hcz27_6
                        try clear hcz27_7
                        try clear hcz27_8
                        try clear hcz27_9
                        try clear hcz28_0
                        try clear hcz28_1
                        try clear hcz28_10
                        try clear hcz28_11
                        try clear hcz28_2
                        try clear hcz28_3
                        try clear hcz28_4
                        try clear hcz28_5
                        try clear hcz28_6
                        try clear hcz28_7
                        try clear hcz28_8
                        try clear hcz28_9
                        try clear hcz41_0
                        try clear hcz41_1
                        try clear hcz41_2
                        try clear hcz44_0
                        try clear hcz44_1
                        try clear hcz44_2
                        try clear hcz45_0
                        try clear hcz45_1
                        try clear hcz45_10
                        try clear hcz45_11
                        try clear hcz45_2
                        try clear hcz45_3
                        try clear hcz45_4
                        try clear hcz45_5
                        try clear hcz45_6
                        try clear hcz45_7
                        try clear hcz45_8
                        try clear hcz45_9
                        try clear hcz48_0
                        try clear hcz48_1
                        try clear hcz48_2
                        try clear hcz49_0
                        try clear hcz49_1
                        try clear hcz49_10
                        try clear hcz49_11
                        try clear hcz49_2
                        try clear hcz49_3
                        try clear hcz49_4
                        try clear hcz49_5
                        try clear hcz49_6
                        try clear hcz49_7
                        try clear hcz49_8
                        try clear hcz49_9
                        try clear hcz52_0
                        try clear hcz52_1
                        try clear hcz52_2
                        try clear hcz53_0
                        try clear hcz53_1
                        try clear hcz53_10
                        try clear hcz53_11
                        try clear hcz53_2
                        try clear hcz53_3
                        try clear hcz53_4
                        try clear hcz53_5
                        try clear hcz53_6
                        try clear hcz53_7
                        try clear hcz53_8
                        try clear hcz53_9
                        try clear hcz56_0
                        try clear hcz56_1
                        try clear hcz56_2
                        try clear hcz57_0
                        try clear hcz57_1
                        try clear hcz57_10
                        try clear hcz57_11
                        try clear hcz57_2
                        try clear hcz57_3
                        try clear hcz57_4
                        try clear hcz57_5
                        try clear hcz57_6
                        try clear hcz57_7
                        try clear hcz57_8
                        try clear hcz57_9
                        try clear hcz60_0
                        try clear hcz60_1
                        try clear hcz60_2
                        try clear hcz61_0
                        try clear hcz61_1
                        try clear hcz61_10
                        try clear hcz61_11
                        try clear hcz61_2
                        try clear hcz61_3
                        try clear hcz61_4
                        try clear hcz61_5
                        try clear hcz61_6
                        try clear hcz61_7
                        try clear hcz61_8
                        try clear hcz61_9
                        try clear hcz63_0
                        try clear hcz63_1
                        try clear hcz63_2
                        try clear hcz64_0
                        try clear hcz64_1
                        try clear hcz64_10
                        try clear hcz64_11
                        try clear hcz64_2
                        try clear hcz64_3
                        try clear hcz64_4
                        try clear hcz64_5
                        try clear hcz64_6
                        try clear hcz64_7
                        try clear hcz64_8
                        try clear hcz64_9
                        try clear hfz13_0
                        try clear hfz13_1
                        try clear hfz13_10
                        try clear hfz13_11
                        try clear hfz13_2
                        try clear hfz13_3
                        try clear hfz13_4
                        try clear hfz13_5
                        try clear hfz13_6
                        try clear hfz13_7
                        try clear hfz13_8
                        try clear hfz13_9
                        try clear hfz16_0
                        try clear hfz16_1
                        try clear hfz16_10
                        try clear hfz16_11
                        try clear hfz16_2
                        try clear hfz16_3
                        try clear hfz16_4
                        try clear hfz16_5
                        try clear hfz16_6
                        try clear hfz16_7
                        try clear hfz16_8
                        try clear hfz16_9
                        try clear hfz19_0
                        try clear hfz19_1
                        try clear hfz19_10
                        try clear hfz19_11
                        try clear hfz19_2
                        try clear hfz19_3
                        try clear hfz19_4
                        try clear hfz19_5
                        try clear hfz19_6
                        try clear hfz19_7
                        try clear hfz19_8
                        try clear hfz19_9
                        try clear hfz22_0
                        try clear hfz22_1
                        try clear hfz22_10
                        try clear hfz22_11
                        try clear hfz22_2
                        try clear hfz22_3
                        try clear hfz22_4
                        try clear hfz22_5
                        try clear hfz22_6
                        try clear hfz22_7
                        try clear hfz22_8
                        try clear hfz22_9
                        try clear hfz24_0
                        try clear hfz24_1
                        try clear hfz24_10
                        try clear hfz24_11
                        try clear hfz24_2
                        try clear hfz24_3
                        try clear hfz24_4
                        try clear hfz24_5
                        try clear hfz24_6
                        try clear hfz24_7
                        try clear hfz24_8
                        try clear hfz24_9
                        try clear hfz25_0
                        try clear hfz25_1
                        try clear hfz25_10
                        try clear hfz25_11
                        try clear hfz25_2
                        try clear hfz25_3
                        try clear hfz25_4
                        try clear hfz25_5
                        try clear hfz25_6
                        try clear hfz25_7
                        try clear hfz25_8
                        try clear hfz25_9
                        try clear hfz27_0
                        try clear hfz27_1
                        try clear hfz27_10
                        try clear hfz27_11
                        try clear hfz27_2
                        try clear hfz27_3
                        try clear hfz27_4
                        try clear hfz27_5
                        try clear hfz27_6
                        try clear hfz27_7
                        try clear hfz27_8
                        try clear hfz27_9
                        try clear hfz28_0
                        try clear hfz28_1
                        try clear hfz28_10
                        try clear hfz28_11
                        try clear hfz28_2
                        try clear hfz28_3
                        try clear hfz28_4
                        try clear hfz28_5
                        try clear hfz28_6
                        try clear hfz28_7
                        try clear hfz28_8
                        try clear hfz28_9
                        try clear hfz41_0
                        try clear hfz41_1
                        try clear hfz41_2
                        try clear hfz44_0
                        try clear hfz44_1
                        try clear hfz44_2
                        try clear hfz45_0
                        try clear hfz45_1
                        try clear hfz45_10
                        try clear hfz45_11
                        try clear hfz45_2
                        try clear hfz45_3
                        try clear hfz45_4
                        try clear hfz45_5
                        try clear hfz45_6
                        try clear hfz45_7
                        try clear hfz45_8
                        try clear hfz45_9
                        try clear hfz48_0
                        try clear hfz48_1
                        try clear hfz48_2
                        try clear hfz49_0
                        try clear hfz49_1
                        try clear hfz49_10
                        try clear hfz49_11
                        try clear hfz49_2
                        try clear hfz49_3
                        try clear hfz49_4
                        try clear hfz49_5
                        try clear hfz49_6
                        try clear hfz49_7
                        try clear hfz49_8
                        try clear hfz49_9
                        try clear hfz52_0
                        try clear hfz52_1
                        try clear hfz52_2
                        try clear hfz53_0
                        try clear hfz53_1
                        try clear hfz53_10
                        try clear hfz53_11
                        try clear hfz53_2
                        try clear hfz53_3
                        try clear hfz53_4
                        try clear hfz53_5
                        try clear hfz53_6
                        try clear hfz53_7
                        try clear hfz53_8
                        try clear hfz53_9
                        try clear hfz56_0
                        try clear hfz56_1
                        try clear hfz56_2
                        try clear hfz57_0
                        try clear hfz57_1
                        try clear hfz57_10
                        try clear hfz57_11
                        try clear hfz57_2
                        try clear hfz57_3
                        try clear hfz57_4
                        try clear hfz57_5
                        try clear hfz57_6
                        try clear hfz57_7
                        try clear hfz57_8
                        try clear hfz57_9
                        try clear hfz60_0
                        try clear hfz60_1
                        try clear hfz60_2
                        try clear hfz61_0
                        try clear hfz61_1
                        try clear hfz61_10
                        try clear hfz61_11
                        try clear hfz61_2
                        try clear hfz61_3
                        try clear hfz61_4
                        try clear hfz61_5
                        try clear hfz61_6
                        try clear hfz61_7
                        try clear hfz61_8
                        try clear hfz61_9
                        try clear hfz63_0
                        try clear hfz63_1
                        try clear hfz63_2
                        try clear hfz64_0
                        try clear hfz64_1
                        try clear hfz64_10
                        try clear hfz64_11
                        try clear hfz64_2
                        try clear hfz64_3
                        try clear hfz64_4
                        try clear hfz64_5
                        try clear hfz64_6
                        try clear hfz64_7
                        try clear hfz64_8
                        try clear hfz64_9
                        try clear hx347_0
                        try clear hx347_1
                        try clear hx347_2
                        try clear p2
                        try clear p347
                        try clear p6
                        try clear q347
                        obtain ⟨kq, x104_37, rfl, HA, HJ37, HO_9, BK333, BK348, HB⟩ := hcut
                        cases kq with
                        | zero => exact absurd HA.out (by simp [clepsydralaw16_AnchorHolds.j2])
                        | succ kj37 =>
                          have H := HA.out
                          clear HA
                          simp only [clepsydralaw16_AnchorHolds.j2] at H
                          by_cases c65 : x104_37 = true
                          · subst c65
                            have H1 : (some true) = some r := by rw [if_pos rfl] at H; exact H
                            clear H
                            have H := H1
                            clear H1
                            obtain rfl := Option.some.inj H
                            go_wp2
                            go_ret
                            exact ⟨by first | rfl | (simp [errW_none, errW_some] <;> rfl) | (simp [*, errW_none, errW_some] <;> rfl), by repeat (first | (with_reducible first | exact HB.out | apply below_alloc | apply pw_below_drewN | apply below_drew1 | refine below_set ?_ GE333.out | refine below_set ?_ GE348.out) | exact HB.out)⟩
                          · replace c65 := Bool.eq_false_iff.mpr c65
                            subst c65
                            have H1 : ((anchor_Seen.f kj37 a0_0 a0_1 a0_2 a0_3 a0_4 a0_5 a0_6 a0_7 a0_8 a0_9 a0_10 a0_11 (wrap64 (a1 + ((rd_T66 l2 x56_2).f0)))).bind fun bt349 => (if bt349.2.2 = true then ((carry_Way.f kj37 a0_0 a0_1 a0_2 a0_3 a0_4 a0_5 a0_6 a0_7 a0_8 a0_9 a0_10 a0_11 bt349.1 bt349.2.1 (wrap64 ((wrap64 (a0_3 - ((rd_T66 l2 x56_2).f1))) + ((rd_T66 l2 x56_2).f2)))).bind fun bt353 => (if x9_2.length < 8796093022208 then (clepsydralaw16_AnchorHolds.l0 kj37 a1 (x9_2 ++ [(⟨bt353.1, bt353.2⟩ : S33)]) l2 (l2.length : Int) (wrap64 (x56_2 + 1)) a0_0 a0_1 a0_2 a0_3 a0_4 a0_5 a0_6 a0_7 a0_8 a0_9 a0_10 a0_11) else (none))) else (some false))) = some r := by rw [if_neg (show ¬ (false = true) by decide)] at H; exact H
                            clear H
                            have H := H1
                            clear H1
                            replace H := Option.bind_eq_some_iff.mp H
                            obtain ⟨⟨t349, t350, t351⟩, A660, H⟩ := H
                            replace H : (if t351 = true then ((carry_Way.f kj37 a0_0 a0_1 a0_2 a0_3 a0_4 a0_5 a0_6 a0_7 a0_8 a0_9 a0_10 a0_11 t349 t350 (wrap64 ((wrap64 (a0_3 - ((rd_T66 l2 x56_2).f1))) + ((rd_T66 l2 x56_2).f2)))).bind fun bt353 => (if x9_2.length < 8796093022208 then (clepsydralaw16_AnchorHolds.l0 kj37 a1 (x9_2 ++ [(⟨bt353.1, bt353.2⟩ : S33)]) l2 (l2.length : Int) (wrap64 (x56_2 + 1)) a0_0 a0_1 a0_2 a0_3 a0_4 a0_5 a0_6 a0_7 a0_8 a0_9 a0_10 a0_11) else (none))) else (some false)) = some r := H
                            have A66 := Aside0.mk A660
                            clear A660
                            by_cases c67 : t351 = true
                            · subst c67
                              have H1 : ((carry_Way.f kj37 a0_0 a0_1 a0_2 a0_3 a0_4 a0_5 a0_6 a0_7 a0_8 a0_9 a0_10 a0_11 t349 t350 (wrap64 ((wrap64 (a0_3 - ((rd_T66 l2 x56_2).f1))) + ((rd_T66 l2 x56_2).f2)))).bind fun bt353 => (if x9_2.length < 8796093022208 then (clepsydralaw16_AnchorHolds.l0 kj37 a1 (x9_2 ++ [(⟨bt353.1, bt353.2⟩ : S33)]) l2 (l2.length : Int) (wrap64 (x56_2 + 1)) a0_0 a0_1 a0_2 a0_3 a0_4 a0_5 a0_6 a0_7 a0_8 a0_9 a0_10 a0_11) else (none))) = some r := by rw [if_pos rfl] at H; exact H
                              clear H
                              have H := H1
                              clear H1
                              replace H := Option.bind_eq_some_iff.mp H
                              obtain ⟨⟨t353, t354⟩, A680, H⟩ := H
                              replace H : (if x9_2.length < 8796093022208 then (clepsydralaw16_AnchorHolds.l0 kj37 a1 (x9_2 ++ [(⟨t353, t354⟩ : S33)]) l2 (l2.length : Int) (wrap64 (x56_2 + 1)) a0_0 a0_1 a0_2 a0_3 a0_4 a0_5 a0_6 a0_7 a0_8 a0_9 a0_10 a0_11) else (none)) = some r := H
                              have A68 := Aside0.mk A680
                              clear A680
                              by_cases c69 : x9_2.length < 8796093022208
                              · rw [if_pos c69] at H
                                have LMc69 := Aside0.mk c69
                                clear c69
                                obtain ⟨y355, hy355⟩ : ∃ y_ : List (S33), y_ = (x9_2 ++ [(⟨t353, t354⟩ : S33)]) := ⟨_, rfl⟩
                                replace H : (clepsydralaw16_AnchorHolds.l0 kj37 a1 y355 l2 (l2.length : Int) (wrap64 (x56_2 + 1)) a0_0 a0_1 a0_2 a0_3 a0_4 a0_5 a0_6 a0_7 a0_8 a0_9 a0_10 a0_11) = some r := by first | (rw [hy355]; with_reducible exact H) | (have H2_ := (Option.bind_some _ _).symm.trans H; rw [hy355]; with_reducible exact H2_) | (have H2_ := (Option.bind_some _ _).symm.trans H; with_reducible exact H2_) | with_reducible exact H | (rw [hy355]; exact H) | exact H
                                have Ny355 := Aside0.mk hy355
                                clear hy355
                                have H' := Aside0.mk H
                                clear H
                                have hnb70 := NB333_348.out
                                have hnc70 := NB348_333.out
                                have hcz71_0 : wc.cell? ⟨gb333, 0, none⟩ = some (.int .i64 a0_0) := (blk_cell BK333.out 0).trans rfl
                                have hcz71_1 : wc.cell? ⟨gb333, 1, none⟩ = some (.int .i64 a0_1) := (blk_cell BK333.out 1).trans rfl
                                have hcz71_2 : wc.cell? ⟨gb333, 2, none⟩ = some (.int .i64 a0_2) := (blk_cell BK333.out 2).trans rfl
                                have hcz71_3 : wc.cell? ⟨gb333, 3, none⟩ = some (.int .i64 a0_3) := (blk_cell BK333.out 3).trans rfl
                                have hcz71_4 : wc.cell? ⟨gb333, 4, none⟩ = some (.int .i64 a0_4) := (blk_cell BK333.out 4).trans rfl
                                have hcz71_5 : wc.cell? ⟨gb333, 5, none⟩ = some (.int .i64 a0_5) := (blk_cell BK333.out 5).trans rfl
                                have hcz71_6 : wc.cell? ⟨gb333, 6, none⟩ = some (.int .i64 a0_6) := (blk_cell BK333.out 6).trans rfl
                                have hcz71_7 : wc.cell? ⟨gb333, 7, none⟩ = some (.int .i64 a0_7) := (blk_cell BK333.out 7).trans rfl
                                have hcz71_8 : wc.cell? ⟨gb333, 8, none⟩ = some (.int .i64 a0_8) := (blk_cell BK333.out 8).trans rfl
                                have hcz71_9 : wc.cell? ⟨gb333, 9, none⟩ = some (.int .i64 a0_9) := (blk_cell BK333.out 9).trans rfl
                                have hcz71_10 : wc.cell? ⟨gb333, 10, none⟩ = some (.int .i64 a0_10) := (blk_cell BK333.out 10).trans rfl
                                have hcz71_11 : wc.cell? ⟨gb333, 11, none⟩ = some (.int .i64 a0_11) := (blk_cell BK333.out 11).trans rfl
                                have hfz71_0 := blk_frozen BK333.out 0
                                have hfz71_1 := blk_frozen BK333.out 1
                                have hfz71_2 := blk_frozen BK333.out 2
                                have hfz71_3 := blk_frozen BK333.out 3
                                have hfz71_4 := blk_frozen BK333.out 4
                                have hfz71_5 := blk_frozen BK333.out 5
                                have hfz71_6 := blk_frozen BK333.out 6
                                have hfz71_7 := blk_frozen BK333.out 7
                                have hfz71_8 := blk_frozen BK333.out 8
                                have hfz71_9 := blk_frozen BK333.out 9
                                have hfz71_10 := blk_frozen BK333.out 10
                                have hfz71_11 := blk_frozen BK333.out 11
                                have hcz72_0 : wc.cell? ⟨gb348, 0, none⟩ = some (.int .i64 ((rd_T66 l2 x56_2).f0)) := (blk_cell BK348.out 0).trans rfl
                                have hcz72_1 : wc.cell? ⟨gb348, 1, none⟩ = some (.int .i64 ((rd_T66 l2 x56_2).f1)) := (blk_cell BK348.out 1).trans rfl
                                have hcz72_2 : wc.cell? ⟨gb348, 2, none⟩ = some (.int .i64 ((rd_T66 l2 x56_2).f2)) := (blk_cell BK348.out 2).trans rfl
                                have hfz72_0 := blk_frozen BK348.out 0
                                have hfz72_1 := blk_frozen BK348.out 1
                                have hfz72_2 := blk_frozen BK348.out 2
                                go_wp2_with (first | ((with_reducible refine gate_callee (f := 25) rfl ?_); refine goesL_ (some 111) rfl rfl Try.func25 (by kernel_rfl) rfl #[.agg #[.int .i64 a0_0, .int .i64 a0_1, .int .i64 a0_2, .int .i64 a0_3, .int .i64 a0_4, .int .i64 a0_5, .int .i64 a0_6, .int .i64 a0_7, .int .i64 a0_8, .int .i64 a0_9, .int .i64 a0_10, .int .i64 a0_11], .int .i64 (wrap64 (a1 + ((rd_T66 l2 x56_2).f0)))] rfl (by (try simp only [List.map_toArray, List.map_cons, List.map_nil]); first | done | rfl | (simp only [List.length_drop, List.length_take]; rfl)) ?_; (with_reducible refine (anchor_Seen.calls kj37 a0_0 a0_1 a0_2 a0_3 a0_4 a0_5 a0_6 a0_7 a0_8 a0_9 a0_10 a0_11 (wrap64 (a1 + ((rd_T66 l2 x56_2).f0))) t349 t350 true _ A66.out).mono ?_); rintro e w73 ⟨rfl, hb⟩; refine ⟨_, rfl, ?_⟩; have n0_ := Aside0.mk (Kd.R_below (by (with_reducible repeat (first | apply Kd.R_alloc | apply Kd.R_drewN | apply Kd.R_drew)); exact HO_9.out) hb); have n1_ := Aside0.mk (blk_below (g := gb333) (o := .cells #[.int .i64 a0_0, .int .i64 a0_1, .int .i64 a0_2, .int .i64 a0_3, .int .i64 a0_4, .int .i64 a0_5, .int .i64 a0_6, .int .i64 a0_7, .int .i64 a0_8, .int .i64 a0_9, .int .i64 a0_10, .int .i64 a0_11] 23 (0, 0)) (by (with_reducible repeat (first | refine blk_drewN ?_ _ | refine blk_drew ?_ | refine blk_alloc ?_ _)); exact BK333.out) hb); have n2_ := Aside0.mk (blk_below (g := gb348) (o := .cells #[.int .i64 ((rd_T66 l2 x56_2).f0), .int .i64 ((rd_T66 l2 x56_2).f1), .int .i64 ((rd_T66 l2 x56_2).f2)] 66 (0, 0)) (by (with_reducible repeat (first | refine blk_drewN ?_ _ | refine blk_drew ?_ | refine blk_alloc ?_ _)); exact BK348.out) hb); have n3_ := Aside0.mk (below_step (by repeat (first | (with_reducible first | exact HB.out | apply below_alloc | apply pw_below_drewN | apply below_drew1 | refine below_set ?_ GE333.out | refine below_set ?_ GE348.out) | exact HB.out)) hb); clear HO_9; clear BK333; clear BK348; clear HB; have HO_9 := n0_; have BK333 := n1_; have BK348 := n2_; have HB := n3_; clear n0_ n1_ n2_ n3_; (try clear hb); (try clear hb2); (try clear hk); (try clear hi)) | ((with_reducible refine gate_dst (N := 12) rfl ?_); (try (refine gate_guard (by rfl) ?_; dsimp only)); refine box_event ?hg (N := 12) ?hd (cs := #[.int .i64 0, .int .i64 0]) (t := 33) ?hr ?_; (case hd => rfl); (case hg => rfl); (case hr => first | (go_simp; done) | (go_simp; rfl)); intro gb352 hg w74 hbox hb; have n0_ := Aside0.mk (Kd.R_below (Kd.R_elderB (by (with_reducible repeat (first | apply Kd.R_alloc | apply Kd.R_drewN | apply Kd.R_drew)); exact HO_9.out) gb352 (Nat.le_of_eq hg.symm)) hb); have n1_ := Aside0.mk (blk_below (g := gb333) (o := .cells #[.int .i64 a0_0, .int .i64 a0_1, .int .i64 a0_2, .int .i64 a0_3, .int .i64 a0_4, .int .i64 a0_5, .int .i64 a0_6, .int .i64 a0_7, .int .i64 a0_8, .int .i64 a0_9, .int .i64 a0_10, .int .i64 a0_11] 23 (0, 0)) (by (with_reducible repeat (first | refine blk_drewN ?_ _ | refine blk_drew ?_ | refine blk_alloc ?_ _)); exact BK333.out) hb); have n2_ := Aside0.mk (blk_below (g := gb348) (o := .cells #[.int .i64 ((rd_T66 l2 x56_2).f0), .int .i64 ((rd_T66 l2 x56_2).f1), .int .i64 ((rd_T66 l2 x56_2).f2)] 66 (0, 0)) (by (with_reducible repeat (first | refine blk_drewN ?_ _ | refine blk_drew ?_ | refine blk_alloc ?_ _)); exact BK348.out) hb); have n3_ := Aside0.mk (below_step (by repeat (first | (with_reducible first | exact HB.out | apply below_alloc | apply pw_below_drewN | apply below_drew1 | refine below_set ?_ GE333.out | refine below_set ?_ GE348.out) | exact HB.out)) hb); have n4_ := Aside0.mk (hbox); have n5_ := Aside0.mk ((by rw [hg]; exact (below_size (by repeat (first | (with_reducible first | exact HB.out | apply below_alloc | apply pw_below_drewN | apply below_drew1 | refine below_set ?_ GE333.out | refine below_set ?_ GE348.out) | exact HB.out))) : w.heap.size ≤ gb352)); have n6_ := Aside0.mk ((by rw [hg]; exact (below_size (by repeat (first | (with_reducible first | exact HB.out | apply below_alloc | apply pw_below_drewN | apply below_drew1 | refine below_set ?_ GE333.out | refine below_set ?_ GE348.out) | exact HB.out))) : w.heap.size ≤ gb352)); have n7_ := Aside0.mk ((by rw [hg]; exact Nat.ne_of_lt (blk_lt (g := gb333) (o := .cells #[.int .i64 a0_0, .int .i64 a0_1, .int .i64 a0_2, .int .i64 a0_3, .int .i64 a0_4, .int .i64 a0_5, .int .i64 a0_6, .int .i64 a0_7, .int .i64 a0_8, .int .i64 a0_9, .int .i64 a0_10, .int .i64 a0_11] 23 (0, 0)) (by (with_reducible repeat (first | refine blk_drewN ?_ _ | refine blk_drew ?_ | refine blk_alloc ?_ _)); exact BK333.out)) : gb333 ≠ gb352)); have n8_ := Aside0.mk ((by rw [hg]; exact Nat.ne_of_gt (blk_lt (g := gb333) (o := .cells #[.int .i64 a0_0, .int .i64 a0_1, .int .i64 a0_2, .int .i64 a0_3, .int .i64 a0_4, .int .i64 a0_5, .int .i64 a0_6, .int .i64 a0_7, .int .i64 a0_8, .int .i64 a0_9, .int .i64 a0_10, .int .i64 a0_11] 23 (0, 0)) (by (with_reducible repeat (first | refine blk_drewN ?_ _ | refine blk_drew ?_ | refine blk_alloc ?_ _)); exact BK333.out)) : gb352 ≠ gb333)); have n9_ := Aside0.mk ((by rw [hg]; exact Nat.ne_of_lt (blk_lt (g := gb348) (o := .cells #[.int .i64 ((rd_T66 l2 x56_2).f0), .int .i64 ((rd_T66 l2 x56_2).f1), .int .i64 ((rd_T66 l2 x56_2).f2)] 66 (0, 0)) (by (with_reducible repeat (first | refine blk_drewN ?_ _ | refine blk_drew ?_ | refine blk_alloc ?_ _)); exact BK348.out)) : gb348 ≠ gb352)); have n10_ := Aside0.mk ((by rw [hg]; exact Nat.ne_of_gt (blk_lt (g := gb348) (o := .cells #[.int .i64 ((rd_T66 l2 x56_2).f0), .int .i64 ((rd_T66 l2 x56_2).f1), .int .i64 ((rd_T66 l2 x56_2).f2)] 66 (0, 0)) (by (with_reducible repeat (first | refine blk_drewN ?_ _ | refine blk_drew ?_ | refine blk_alloc ?_ _)); exact BK348.out)) : gb352 ≠ gb348)); clear HO_9; clear BK333; clear BK348; clear HB; have HO_9 := n0_; have BK333 := n1_; have BK348 := n2_; have HB := n3_; have BK352 := n4_; have GW352 := n5_; have GE352 := n6_; have NB333_352 := n7_; have NB352_333 := n8_; have NB348_352 := n9_; have NB352_348 := n10_; clear n0_ n1_ n2_ n3_ n4_ n5_ n6_ n7_ n8_ n9_ n10_; clear hb hbox hg; have hnb75 := NB352_333.out; have hnc75 := NB333_352.out; have hnb76 := NB352_348.out; have hnc76 := NB348_352.out; have hcz77_0 : w74.cell? ⟨gb352, 0, none⟩ = some (.int .i64 0) := (blk_cell BK352.out 0).trans rfl; have hcz77_1 : w74.cell? ⟨gb352, 1, none⟩ = some (.int .i64 0) := (blk_cell BK352.out 1).trans rfl; have hfz77_0 := blk_frozen BK352.out 0; have hfz77_1 := blk_frozen BK352.out 1; have hcz78_0 : w74.cell? ⟨gb333, 0, none⟩ = some (.int .i64 a0_0) := (blk_cell BK333.out 0).trans rfl; have hcz78_1 : w74.cell? ⟨gb333, 1, none⟩ = some (.int .i64 a0_1) := (blk_cell BK333.out 1).trans rfl; have hcz78_2 : w74.cell? ⟨gb333, 2, none⟩ = some (.int .i64 a0_2) := (blk_cell BK333.out 2).trans rfl; have hcz78_3 : w74.cell? ⟨gb333, 3, none⟩ = some (.int .i64 a0_3) := (blk_cell BK333.out 3).trans rfl; have hcz78_4 : w74.cell? ⟨gb333, 4, none⟩ = some (.int .i64 a0_4) := (blk_cell BK333.out 4).trans rfl; have hcz78_5 : w74.cell? ⟨gb333, 5, none⟩ = some (.int .i64 a0_5) := (blk_cell BK333.out 5).trans rfl; have hcz78_6 : w74.cell? ⟨gb333, 6, none⟩ = some (.int .i64 a0_6) := (blk_cell BK333.out 6).trans rfl; have hcz78_7 : w74.cell? ⟨gb333, 7, none⟩ = some (.int .i64 a0_7) := (blk_cell BK333.out 7).trans rfl; have hcz78_8 : w74.cell? ⟨gb333, 8, none⟩ = some (.int .i64 a0_8) := (blk_cell BK333.out 8).trans rfl; have hcz78_9 : w74.cell? ⟨gb333, 9, none⟩ = some (.int .i64 a0_9) := (blk_cell BK333.out 9).trans rfl; have hcz78_10 : w74.cell? ⟨gb333, 10, none⟩ = some (.int .i64 a0_10) := (blk_cell BK333.out 10).trans rfl; have hcz78_11 : w74.cell? ⟨gb333, 11, none⟩ = some (.int .i64 a0_11) := (blk_cell BK333.out 11).trans rfl; have hfz78_0 := blk_frozen BK333.out 0; have hfz78_1 := blk_frozen BK333.out 1; have hfz78_2 := blk_frozen BK333.out 2; have hfz78_3 := blk_frozen BK333.out 3; have hfz78_4 := blk_frozen BK333.out 4; have hfz78_5 := blk_frozen BK333.out 5; have hfz78_6 := blk_frozen BK333.out 6; have hfz78_7 := blk_frozen BK333.out 7; have hfz78_8 := blk_frozen BK333.out 8; have hfz78_9 := blk_frozen BK333.out 9; have hfz78_10 := blk_frozen BK333.out 10; have hfz78_11 := blk_frozen BK333.out 11; have hcz79_0 : w74.cell? ⟨gb348, 0, none⟩ = some (.int .i64 ((rd_T66 l2 x56_2).f0)) := (blk_cell BK348.out 0).trans rfl; have hcz79_1 : w74.cell? ⟨gb348, 1, none⟩ = some (.int .i64 ((rd_T66 l2 x56_2).f1)) := (blk_cell BK348.out 1).trans rfl; have hcz79_2 : w74.cell? ⟨gb348, 2, none⟩ = some (.int .i64 ((rd_T66 l2 x56_2).f2)) := (blk_cell BK348.out 2).trans rfl; have hfz79_0 := blk_frozen BK348.out 0; have hfz79_1 := blk_frozen BK348.out 1; have hfz79_2 := blk_frozen BK348.out 2) | ((with_reducible refine gate_callee (f := 33) rfl ?_); refine goesL_ (some 127) rfl rfl Try.func33 (by kernel_rfl) rfl #[.agg #[.int .i64 a0_0, .int .i64 a0_1, .int .i64 a0_2, .int .i64 a0_3, .int .i64 a0_4, .int .i64 a0_5, .int .i64 a0_6, .int .i64 a0_7, .int .i64 a0_8, .int .i64 a0_9, .int .i64 a0_10, .int .i64 a0_11], .agg #[.int .i64 t349, .int .i64 t350], .int .i64 (wrap64 ((wrap64 (a0_3 - ((rd_T66 l2 x56_2).f1))) + ((rd_T66 l2 x56_2).f2)))] rfl (by (try simp only [List.map_toArray, List.map_cons, List.map_nil]); first | done | rfl | (simp only [List.length_drop, List.length_take]; rfl)) ?_; (with_reducible refine (carry_Way.calls kj37 a0_0 a0_1 a0_2 a0_3 a0_4 a0_5 a0_6 a0_7 a0_8 a0_9 a0_10 a0_11 t349 t350 (wrap64 ((wrap64 (a0_3 - ((rd_T66 l2 x56_2).f1))) + ((rd_T66 l2 x56_2).f2))) t353 t354 _ A68.out).mono ?_); rintro e w80 ⟨rfl, hb⟩; refine ⟨_, rfl, ?_⟩; have n0_ := Aside0.mk (Kd.R_below (by (with_reducible repeat (first | apply Kd.R_alloc | apply Kd.R_drewN | apply Kd.R_drew)); exact (Kd.R_mono (Kd.R_far (p := ⟨gb352, 1, none⟩) (Kd.R_far (p := ⟨gb352, 0, none⟩) (Kd.R_mono HO_9.out (fun k_ hk => (⟨hk, hk.2⟩ : _ ∧ k_ ≠ gb352))) (fun _ hk => hk.2) (.int .i64 t349)) (fun _ hk => hk.2) (.int .i64 t350)) (fun _ h_ => h_.1))) hb); have n1_ := Aside0.mk (blk_below (g := gb333) (o := .cells #[.int .i64 a0_0, .int .i64 a0_1, .int .i64 a0_2, .int .i64 a0_3, .int .i64 a0_4, .int .i64 a0_5, .int .i64 a0_6, .int .i64 a0_7, .int .i64 a0_8, .int .i64 a0_9, .int .i64 a0_10, .int .i64 a0_11] 23 (0, 0)) (by (with_reducible repeat (first | refine blk_drewN ?_ _ | refine blk_drew ?_ | refine blk_alloc ?_ _)); refine blk_far ?_ NB333_352.out _; (with_reducible repeat (first | refine blk_drewN ?_ _ | refine blk_drew ?_ | refine blk_alloc ?_ _)); refine blk_far ?_ NB333_352.out _; (with_reducible repeat (first | refine blk_drewN ?_ _ | refine blk_drew ?_ | refine blk_alloc ?_ _)); exact BK333.out) hb); have n2_ := Aside0.mk (blk_below (g := gb348) (o := .cells #[.int .i64 ((rd_T66 l2 x56_2).f0), .int .i64 ((rd_T66 l2 x56_2).f1), .int .i64 ((rd_T66 l2 x56_2).f2)] 66 (0, 0)) (by (with_reducible repeat (first | refine blk_drewN ?_ _ | refine blk_drew ?_ | refine blk_alloc ?_ _)); refine blk_far ?_ NB348_352.out _; (with_reducible repeat (first | refine blk_drewN ?_ _ | refine blk_drew ?_ | refine blk_alloc ?_ _)); refine blk_far ?_ NB348_352.out _; (with_reducible repeat (first | refine blk_drewN ?_ _ | refine blk_drew ?_ | refine blk_alloc ?_ _)); exact BK348.out) hb); have n3_ := Aside0.mk (blk_below (g := gb352) (o := .cells #[.int .i64 t349, .int .i64 t350] 33 (0, 0)) (by (with_reducible repeat (first | refine blk_drewN ?_ _ | refine blk_drew ?_ | refine blk_alloc ?_ _)); refine blk_put (cs := #[.int .i64 t349, .int .i64 0]) ?_ 1 _ rfl; (with_reducible repeat (first | refine blk_drewN ?_ _ | refine blk_drew ?_ | refine blk_alloc ?_ _)); refine blk_put (cs := #[.int .i64 0, .int .i64 0]) ?_ 0 _ rfl; (with_reducible repeat (first | refine blk_drewN ?_ _ | refine blk_drew ?_ | refine blk_alloc ?_ _)); exact BK352.out) hb); have n4_ := Aside0.mk (below_step (by repeat (first | (with_reducible first | exact HB.out | apply below_alloc | apply pw_below_drewN | apply below_drew1 | refine below_set ?_ GE333.out | refine below_set ?_ GE348.out | refine below_set ?_ GE352.out) | exact HB.out)) hb); clear HO_9; clear BK333; clear BK348; clear BK352; clear HB; have HO_9 := n0_; have BK333 := n1_; have BK348 := n2_; have BK352 := n3_; have HB := n4_; clear n0_ n1_ n2_ n3_ n4_; (try clear hb); (try clear hb2); (try clear hk); (try clear hi)) | ((with_reducible refine gate_builtin (b := .append) (xs := #[.tmp 116, .tmp 128]) rfl ?_); (try (refine gate_guard (by rfl) ?_; dsimp only)); at_builtin; refine Kd.R_append k33 (w0 := w) w.heap.size rfl (.tmp 116) (.tmp 128) 53 33 (.agg #[(.int .i64 0), (.int .i64 0)]) 16 rfl Try.underlying53 info33 rfl (by decide) (by omega) u9 x9_2 (⟨t353, t354⟩ : S33) [.int .i64 t353, .int .i64 t354] (fun k_ => k_ ≠ gb352) (fun _ => False) rfl rfl ?aP (fun _ hk => hk.elim) ?aF ?aO ?aB ?aS ?aL ?_; (case aP => exact k33_mkM _ _ _ (⟨t353, t354⟩ : S33)); (case aB => exact (by repeat (first | (with_reducible first | exact HB.out | apply below_alloc | apply pw_below_drewN | apply below_drew1 | refine below_set ?_ GE333.out | refine below_set ?_ GE348.out | refine below_set ?_ GE352.out) | exact HB.out))); (case aF => exact (fun k_ hk => Kd.freshB (g := gb352) (o := .cells #[.int .i64 t349, .int .i64 t350] 33 (0, 0)) (by (with_reducible repeat (first | refine blk_drewN ?_ _ | refine blk_drew ?_ | refine blk_alloc ?_ _)); exact BK352.out) k_ hk)); (case aO => exact (by (with_reducible repeat (first | apply Kd.R_alloc | apply Kd.R_drewN | apply Kd.R_drew)); exact Kd.R_mono HO_9.out (fun _ hk => hk.2))); (case aS => exact (below_size (by repeat (first | (with_reducible first | exact HB.out | apply below_alloc | apply pw_below_drewN | apply below_drew1 | refine below_set ?_ GE333.out | refine below_set ?_ GE348.out | refine below_set ?_ GE352.out) | exact HB.out)))); (case aL => have := LMc69.out; omega); intro v356 w81 ho hb hg hat; rw [← Ny355.out] at ho; have n0_ := Aside0.mk (blk_grown (g := gb333) (o := .cells #[.int .i64 a0_0, .int .i64 a0_1, .int .i64 a0_2, .int .i64 a0_3, .int .i64 a0_4, .int .i64 a0_5, .int .i64 a0_6, .int .i64 a0_7, .int .i64 a0_8, .int .i64 a0_9, .int .i64 a0_10, .int .i64 a0_11] 23 (0, 0)) (by (with_reducible repeat (first | refine blk_drewN ?_ _ | refine blk_drew ?_ | refine blk_alloc ?_ _)); exact BK333.out) hg (Kd.R_ne HO_9.out BK333.out (by decide))); have n1_ := Aside0.mk (blk_grown (g := gb348) (o := .cells #[.int .i64 ((rd_T66 l2 x56_2).f0), .int .i64 ((rd_T66 l2 x56_2).f1), .int .i64 ((rd_T66 l2 x56_2).f2)] 66 (0, 0)) (by (with_reducible repeat (first | refine blk_drewN ?_ _ | refine blk_drew ?_ | refine blk_alloc ?_ _)); exact BK348.out) hg (Kd.R_ne HO_9.out BK348.out (by decide))); have n2_ := Aside0.mk (blk_grown (g := gb352) (o := .cells #[.int .i64 t349, .int .i64 t350] 33 (0, 0)) (by (with_reducible repeat (first | refine blk_drewN ?_ _ | refine blk_drew ?_ | refine blk_alloc ?_ _)); exact BK352.out) hg (Kd.R_away HO_9.out (fun _ hk => hk.2))); have n3_ := Aside0.mk (hb); have n4_ := Aside0.mk (ho); clear BK333; clear BK348; clear BK352; clear HB; clear HO_9; have BK333 := n0_; have BK348 := n1_; have BK352 := n2_; have HB := n3_; have HO357 := n4_; clear n0_ n1_ n2_ n3_ n4_; clear ho hb hg hat))
                                go_roundg kj37
                                case measure => have := HJ6.out; have := HK2.out; have := HJ37.out; omega
                                case rel => exact ⟨(y355), (wrap64 (x56_2 + 1)), (by first | rfl | (simp; done) | (simp [*]; done)), H', ⟨by have := HJ6.out; have := HK2.out; have := HJ37.out; omega⟩, ⟨by (with_reducible repeat (first | apply Kd.R_alloc | apply Kd.R_drewN | apply Kd.R_drew)); exact Kd.R_mono HO357.out (fun _ hk => trivial)⟩, ⟨by (with_reducible repeat (first | refine blk_drewN ?_ _ | refine blk_drew ?_ | refine blk_alloc ?_ _)); exact BK333.out⟩, ⟨by repeat (first | (with_reducible first | exact HB.out | apply below_alloc | apply pw_below_drewN | apply below_drew1 | refine below_set ?_ GE333.out | refine below_set ?_ GE348.out | refine below_set ?_ GE352.out) | exact HB.out)⟩⟩
                              · rw [if_neg c69] at H
                                exact absurd H (by simp)
                            · replace c67 := Bool.eq_false_iff.mpr c67
                              subst c67
                              have H1 : (some false) = some r := by rw [if_neg (show ¬ (false = true) by decide)] at H; exact H
                              clear H
                              have H := H1
                              clear H1
                              obtain rfl := Option.some.inj H
                              have hnb82 := NB333_348.out
                              have hnc82 := NB348_333.out
                              have hcz83_0 : wc.cell? ⟨gb333, 0, none⟩ = some (.int .i64 a0_0) := (blk_cell BK333.out 0).trans rfl
                              have hcz83_1 : wc.cell? ⟨gb333, 1, none⟩ = some (.int .i64 a0_1) := (blk_cell BK333.out 1).trans rfl
                              have hcz83_2 : wc.cell? ⟨gb333, 2, none⟩ = some (.int .i64 a0_2) := (blk_cell BK333.out 2).trans rfl
                              have hcz83_3 : wc.cell? ⟨gb333, 3, none⟩ = some (.int .i64 a0_3) := (blk_cell BK333.out 3).trans rfl
                              have hcz83_4 : wc.cell? ⟨gb333, 4, none⟩ = some (.int .i64 a0_4) := (blk_cell BK333.out 4).trans rfl
                              have hcz83_5 : wc.cell? ⟨gb333, 5, none⟩ = some (.int .i64 a0_5) := (blk_cell BK333.out 5).trans rfl
                              have hcz83_6 : wc.cell? ⟨gb333, 6, none⟩ = some (.int .i64 a0_6) := (blk_cell BK333.out 6).trans rfl
                              have hcz83_7 : wc.cell? ⟨gb333, 7, none⟩ = some (.int .i64 a0_7) := (blk_cell BK333.out 7).trans rfl
                              have hcz83_8 : wc.cell? ⟨gb333, 8, none⟩ = some (.int .i64 a0_8) := (blk_cell BK333.out 8).trans rfl
                              have hcz83_9 : wc.cell? ⟨gb333, 9, none⟩ = some (.int .i64 a0_9) := (blk_cell BK333.out 9).trans rfl
                              have hcz83_10 : wc.cell? ⟨gb333, 10, none⟩ = some (.int .i64 a0_10) := (blk_cell BK333.out 10).trans rfl
                              have hcz83_11 : wc.cell? ⟨gb333, 11, none⟩ = some (.int .i64 a0_11) := (blk_cell BK333.out 11).trans rfl
                              have hfz83_0 := blk_frozen BK333.out 0
                              have hfz83_1 := blk_frozen BK333.out 1
                              have hfz83_2 := blk_frozen BK333.out 2
                              have hfz83_3 := blk_frozen BK333.out 3
                              have hfz83_4 := blk_frozen BK333.out 4
                              have hfz83_5 := blk_frozen BK333.out 5
                              have hfz83_6 := blk_frozen BK333.out 6
                              have hfz83_7 := blk_frozen BK333.out 7
                              have hfz83_8 := blk_frozen BK333.out 8
                              have hfz83_9 := blk_frozen BK333.out 9
                              have hfz83_10 := blk_frozen BK333.out 10
                              have hfz83_11 := blk_frozen BK333.out 11
                              have hcz84_0 : wc.cell? ⟨gb348, 0, none⟩ = some (.int .i64 ((rd_T66 l2 x56_2).f0)) := (blk_cell BK348.out 0).trans rfl
                              have hcz84_1 : wc.cell? ⟨gb348, 1, none⟩ = some (.int .i64 ((rd_T66 l2 x56_2).f1)) := (blk_cell BK348.out 1).trans rfl
                              have hcz84_2 : wc.cell? ⟨gb348, 2, none⟩ = some (.int .i64 ((rd_T66 l2 x56_2).f2)) := (blk_cell BK348.out 2).trans rfl
                              have hfz84_0 := blk_frozen BK348.out 0
                              have hfz84_1 := blk_frozen BK348.out 1
                              have hfz84_2 := blk_frozen BK348.out 2
                              go_wp2_with (first | ((with_reducible refine gate_callee (f := 25) rfl ?_); refine goesL_ (some 111) rfl rfl Try.func25 (by kernel_rfl) rfl #[.agg #[.int .i64 a0_0, .int .i64 a0_1, .int .i64 a0_2, .int .i64 a0_3, .int .i64 a0_4, .int .i64 a0_5, .int .i64 a0_6, .int .i64 a0_7, .int .i64 a0_8, .int .i64 a0_9, .int .i64 a0_10, .int .i64 a0_11], .int .i64 (wrap64 (a1 + ((rd_T66 l2 x56_2).f0)))] rfl (by (try simp only [List.map_toArray, List.map_cons, List.map_nil]); first | done | rfl | (simp only [List.length_drop, List.length_take]; rfl)) ?_; (with_reducible refine (anchor_Seen.calls kj37 a0_0 a0_1 a0_2 a0_3 a0_4 a0_5 a0_6 a0_7 a0_8 a0_9 a0_10 a0_11 (wrap64 (a1 + ((rd_T66 l2 x56_2).f0))) t349 t350 false _ A66.out).mono ?_); rintro e w85 ⟨rfl, hb⟩; refine ⟨_, rfl, ?_⟩; have n0_ := Aside0.mk (Kd.R_below (by (with_reducible repeat (first | apply Kd.R_alloc | apply Kd.R_drewN | apply Kd.R_drew)); exact HO_9.out) hb); have n1_ := Aside0.mk (blk_below (g := gb333) (o := .cells #[.int .i64 a0_0, .int .i64 a0_1, .int .i64 a0_2, .int .i64 a0_3, .int .i64 a0_4, .int .i64 a0_5, .int .i64 a0_6, .int .i64 a0_7, .int .i64 a0_8, .int .i64 a0_9, .int .i64 a0_10, .int .i64 a0_11] 23 (0, 0)) (by (with_reducible repeat (first | refine blk_drewN ?_ _ | refine blk_drew ?_ | refine blk_alloc ?_ _)); exact BK333.out) hb); have n2_ := Aside0.mk (blk_below (g := gb348) (o := .cells #[.int .i64 ((rd_T66 l2 x56_2).f0), .int .i64 ((rd_T66 l2 x56_2).f1), .int .i64 ((rd_T66 l2 x56_2).f2)] 66 (0, 0)) (by (with_reducible repeat (first | refine blk_drewN ?_ _ | refine blk_drew ?_ | refine blk_alloc ?_ _)); exact BK348.out) hb); have n3_ := Aside0.mk (below_step (by repeat (first | (with_reducible first | exact HB.out | apply below_alloc | apply pw_below_drewN | apply below_drew1 | refine below_set ?_ GE333.out | refine below_set ?_ GE348.out) | exact HB.out)) hb); clear HO_9; clear BK333; clear BK348; clear HB; have HO_9 := n0_; have BK333 := n1_; have BK348 := n2_; have HB := n3_; clear n0_ n1_ n2_ n3_; (try clear hb); (try clear hb2); (try clear hk); (try clear hi)) | ((with_reducible refine gate_dst (N := 12) rfl ?_); (try (refine gate_guard (by rfl) ?_; dsimp only)); refine box_event ?hg (N := 12) ?hd (cs := #[.int .i64 0, .int .i64 0]) (t := 33) ?hr ?_; (case hd => rfl); (case hg => rfl); (case hr => first | (go_simp; done) | (go_simp; rfl)); intro gb352 hg w86 hbox hb; have n0_ := Aside0.mk (Kd.R_below (Kd.R_elderB (by (with_reducible repeat (first | apply Kd.R_alloc | apply Kd.R_drewN | apply Kd.R_drew)); exact HO_9.out) gb352 (Nat.le_of_eq hg.symm)) hb); have n1_ := Aside0.mk (blk_below (g := gb333) (o := .cells #[.int .i64 a0_0, .int .i64 a0_1, .int .i64 a0_2, .int .i64 a0_3, .int .i64 a0_4, .int .i64 a0_5, .int .i64 a0_6, .int .i64 a0_7, .int .i64 a0_8, .int .i64 a0_9, .int .i64 a0_10, .int .i64 a0_11] 23 (0, 0)) (by (with_reducible repeat (first | refine blk_drewN ?_ _ | refine blk_drew ?_ | refine blk_alloc ?_ _)); exact BK333.out) hb); have n2_ := Aside0.mk (blk_below (g := gb348) (o := .cells #[.int .i64 ((rd_T66 l2 x56_2).f0), .int .i64 ((rd_T66 l2 x56_2).f1), .int .i64 ((rd_T66 l2 x56_2).f2)] 66 (0, 0)) (by (with_reducible repeat (first | refine blk_drewN ?_ _ | refine blk_drew ?_ | refine blk_alloc ?_ _)); exact BK348.out) hb); have n3_ := Aside0.mk (below_step (by repeat (first | (with_reducible first | exact HB.out | apply below_alloc | apply pw_below_drewN | apply below_drew1 | refine below_set ?_ GE333.out | refine below_set ?_ GE348.out) | exact HB.out)) hb); have n4_ := Aside0.mk (hbox); have n5_ := Aside0.mk ((by rw [hg]; exact (below_size (by repeat (first | (with_reducible first | exact HB.out | apply below_alloc | apply pw_below_drewN | apply below_drew1 | refine below_set ?_ GE333.out | refine below_set ?_ GE348.out) | exact HB.out))) : w.heap.size ≤ gb352)); have n6_ := Aside0.mk ((by rw [hg]; exact (below_size (by repeat (first | (with_reducible first | exact HB.out | apply below_alloc | apply pw_below_drewN | apply below_drew1 | refine below_set ?_ GE333.out | refine below_set ?_ GE348.out) | exact HB.out))) : w.heap.size ≤ gb352)); have n7_ := Aside0.mk ((by rw [hg]; exact Nat.ne_of_lt (blk_lt (g := gb333) (o := .cells #[.int .i64 a0_0, .int .i64 a0_1, .int .i64 a0_2, .int .i64 a0_3, .int .i64 a0_4, .int .i64 a0_5, .int .i64 a0_6, .int .i64 a0_7, .int .i64 a0_8, .int .i64 a0_9, .int .i64 a0_10, .int .i64 a0_11] 23 (0, 0)) (by (with_reducible repeat (first | refine blk_drewN ?_ _ | refine blk_drew ?_ | refine blk_alloc ?_ _)); exact BK333.out)) : gb333 ≠ gb352)); have n8_ := Aside0.mk ((by rw [hg]; exact Nat.ne_of_gt (blk_lt (g := gb333) (o := .cells #[.int .i64 a0_0, .int .i64 a0_1, .int .i64 a0_2, .int .i64 a0_3, .int .i64 a0_4, .int .i64 a0_5, .int .i64 a0_6, .int .i64 a0_7, .int .i64 a0_8, .int .i64 a0_9, .int .i64 a0_10, .int .i64 a0_11] 23 (0, 0)) (by (with_reducible repeat (first | refine blk_drewN ?_ _ | refine blk_drew ?_ | refine blk_alloc ?_ _)); exact BK333.out)) : gb352 ≠ gb333)); have n9_ := Aside0.mk ((by rw [hg]; exact Nat.ne_of_lt (blk_lt (g := gb348) (o := .cells #[.int .i64 ((rd_T66 l2 x56_2).f0), .int .i64 ((rd_T66 l2 x56_2).f1), .int .i64 ((rd_T66 l2 x56_2).f2)] 66 (0, 0)) (by (with_reducible repeat (first | refine blk_drewN ?_ _ | refine blk_drew ?_ | refine blk_alloc ?_ _)); exact BK348.out)) : gb348 ≠ gb352)); have n10_ := Aside0.mk ((by rw [hg]; exact Nat.ne_of_gt (blk_lt (g := gb348) (o := .cells #[.int .i64 ((rd_T66 l2 x56_2).f0), .int .i64 ((rd_T66 l2 x56_2).f1), .int .i64 ((rd_T66 l2 x56_2).f2)] 66 (0, 0)) (by (with_reducible repeat (first | refine blk_drewN ?_ _ | refine blk_drew ?_ | refine blk_alloc ?_ _)); exact BK348.out)) : gb352 ≠ gb348)); clear HO_9; clear BK333; clear BK348; clear HB; have HO_9 := n0_; have BK333 := n1_; have BK348 := n2_; have HB := n3_; have BK352 := n4_; have GW352 := n5_; have GE352 := n6_; have NB333_352 := n7_; have NB352_333 := n8_; have NB348_352 := n9_; have NB352_348 := n10_; clear n0_ n1_ n2_ n3_ n4_ n5_ n6_ n7_ n8_ n9_ n10_; clear hb hbox hg; have hnb87 := NB352_333.out; have hnc87 := NB333_352.out; have hnb88 := NB352_348.out; have hnc88 := NB348_352.out; have hcz89_0 : w86.cell? ⟨gb352, 0, none⟩ = some (.int .i64 0) := (blk_cell BK352.out 0).trans rfl; have hcz89_1 : w86.cell? ⟨gb352, 1, none⟩ = some (.int .i64 0) := (blk_cell BK352.out 1).trans rfl; have hfz89_0 := blk_frozen BK352.out 0; have hfz89_1 := blk_frozen BK352.out 1))
                              go_ret
                              exact ⟨by first | rfl | (simp [errW_none, errW_some] <;> rfl) | (simp [*, errW_none, errW_some] <;> rfl), by repeat (first | (with_reducible first | exact HB.out | apply below_alloc | apply pw_below_drewN | apply below_drew1 | refine below_set ?_ GE333.out | refine below_set ?_ GE348.out | refine below_set ?_ GE352.out) | exact HB.out)⟩
                    · rw [if_neg c37] at H
                      exact absurd H (by simp)
                  · rw [if_neg c36] at H
                    exact absurd H (by simp)
                · rw [if_neg c35] at H
                  have c35b0 : decide (x56_2 < (l2.length : Int)) = false := decide_eq_false c35
                  clear c35
                  replace H := Option.bind_eq_some_iff.mp H
                  obtain ⟨⟨t342, t343, t344⟩, A900, H⟩ := H
                  replace H : (if t344 = true then (if t342 ≤ (wrap64 (a1 + a0_3)) then (if (wrap64 (a1 + a0_3)) ≤ t343 then ((limit_Hop.f k2 a0_0 a0_1 a0_2 a0_3 a0_4 a0_5 a0_6 a0_7 a0_8 a0_9 a0_10 a0_11).bind fun t346 => (some (decide ((wrap64 (t343 - t342)) ≤ (wrap64 ((wrap64 (2 * a0_7)) + t346)))))) else (some false)) else (some false)) else (some false)) = some r := H
                  have A90 := Aside0.mk A900
                  clear A900
                  by_cases c91 : t344 = true
                  · subst c91
                    have H1 : (if t342 ≤ (wrap64 (a1 + a0_3)) then (if (wrap64 (a1 + a0_3)) ≤ t343 then ((limit_Hop.f k2 a0_0 a0_1 a0_2 a0_3 a0_4 a0_5 a0_6 a0_7 a0_8 a0_9 a0_10 a0_11).bind fun t346 => (some (decide ((wrap64 (t343 - t342)) ≤ (wrap64 ((wrap64 (2 * a0_7)) + t346)))))) else (some false)) else (some false)) = some r := by rw [if_pos rfl] at H; exact H
                    clear H
                    have H := H1
                    clear H1
                    by_cases c92 : t342 ≤ (wrap64 (a1 + a0_3))
                    · rw [if_pos c92] at H
                      have c92b0 : decide (t342 ≤ (wrap64 (a1 + a0_3))) = true := decide_eq_true c92
                      clear c92
                      by_cases c93 : (wrap64 (a1 + a0_3)) ≤ t343
                      · rw [if_pos c93] at H
                        have c93b0 : decide ((wrap64 (a1 + a0_3)) ≤ t343) = true := decide_eq_true c93
                        clear c93
                        replace H := Option.bind_eq_some_iff.mp H
                        obtain ⟨t346, A940, H⟩ := H
                        replace H : (some (decide ((wrap64 (t343 - t342)) ≤ (wrap64 ((wrap64 (2 * a0_7)) + t346))))) = some r := H
                        have A94 := Aside0.mk A940
                        clear A940
                        obtain rfl := Option.some.inj H
                        have hcz95_0 : wr.cell? ⟨gb333, 0, none⟩ = some (.int .i64 a0_0) := (blk_cell BK333.out 0).trans rfl
                        have hcz95_1 : wr.cell? ⟨gb333, 1, none⟩ = some (.int .i64 a0_1) := (blk_cell BK333.out 1).trans rfl
                        have hcz95_2 : wr.cell? ⟨gb333, 2, none⟩ = some (.int .i64 a0_2) := (blk_cell BK333.out 2).trans rfl
                        have hcz95_3 : wr.cell? ⟨gb333, 3, none⟩ = some (.int .i64 a0_3) := (blk_cell BK333.out 3).trans rfl
                        have hcz95_4 : wr.cell? ⟨gb333, 4, none⟩ = some (.int .i64 a0_4) := (blk_cell BK333.out 4).trans rfl
                        have hcz95_5 : wr.cell? ⟨gb333, 5, none⟩ = some (.int .i64 a0_5) := (blk_cell BK333.out 5).trans rfl
                        have hcz95_6 : wr.cell? ⟨gb333, 6, none⟩ = some (.int .i64 a0_6) := (blk_cell BK333.out 6).trans rfl
                        have hcz95_7 : wr.cell? ⟨gb333, 7, none⟩ = some (.int .i64 a0_7) := (blk_cell BK333.out 7).trans rfl
                        have hcz95_8 : wr.cell? ⟨gb333, 8, none⟩ = some (.int .i64 a0_8) := (blk_cell BK333.out 8).trans rfl
                        have hcz95_9 : wr.cell? ⟨gb333, 9, none⟩ = some (.int .i64 a0_9) := (blk_cell BK333.out 9).trans rfl
                        have hcz95_10 : wr.cell? ⟨gb333, 10, none⟩ = some (.int .i64 a0_10) := (blk_cell BK333.out 10).trans rfl
                        have hcz95_11 : wr.cell? ⟨gb333, 11, none⟩ = some (.int .i64 a0_11) := (blk_cell BK333.out 11).trans rfl
                        have hfz95_0 := blk_frozen BK333.out 0
                        have hfz95_1 := blk_frozen BK333.out 1
                        have hfz95_2 := blk_frozen BK333.out 2
                        have hfz95_3 := blk_frozen BK333.out 3
                        have hfz95_4 := blk_frozen BK333.out 4
                        have hfz95_5 := blk_frozen BK333.out 5
                        have hfz95_6 := blk_frozen BK333.out 6
                        have hfz95_7 := blk_frozen BK333.out 7
                        have hfz95_8 := blk_frozen BK333.out 8
                        have hfz95_9 := blk_frozen BK333.out 9
                        have hfz95_10 := blk_frozen BK333.out 10
                        have hfz95_11 := blk_frozen BK333.out 11
                        obtain ⟨Ao96, co96, eo96⟩ := Kd.R_slice HO_9.out
                        subst eo96
                        try go_wp2_with (first | ((with_reducible refine gate_callee (f := 28) rfl ?_); refine goesL_ (some 138) rfl rfl Try.func28 (by kernel_rfl) rfl #[.agg #[.int .i64 a0_0, .int .i64 a0_1, .int .i64 a0_2, .int .i64 a0_3, .int .i64 a0_4, .int .i64 a0_5, .int .i64 a0_6, .int .i64 a0_7, .int .i64 a0_8, .int .i64 a0_9, .int .i64 a0_10, .int .i64 a0_11], .slice Ao96 x9_2.length co96] rfl (by (try simp only [List.map_toArray, List.map_cons, List.map_nil]); first | done | rfl | (simp only [List.length_drop, List.length_take]; rfl)) ?_; (with_reducible refine (anchor_Fuse.calls k2 a0_0 a0_1 a0_2 a0_3 a0_4 a0_5 a0_6 a0_7 a0_8 a0_9 a0_10 a0_11 _ _ x9_2 t342 t343 true _ ?side1 ?side2 A90.out).mono ?_); (case side1 => repeat (first | exact (Kd.R_reads' HO_9.out).2.2 | (with_reducible refine Kd.C_alloc ?_ _) | (with_reducible refine Kd.C_drewN ?_ _) | (with_reducible refine Kd.C_drew ?_))); (case side2 => exact (Kd.R_reads' HO_9.out).2.1); rintro e w97 ⟨rfl, hb⟩; refine ⟨_, rfl, ?_⟩; have n0_ := Aside0.mk (Kd.R_below (by (with_reducible repeat (first | apply Kd.R_alloc | apply Kd.R_drewN | apply Kd.R_drew)); exact HO_9.out) hb); have n1_ := Aside0.mk (blk_below (g := gb333) (o := .cells #[.int .i64 a0_0, .int .i64 a0_1, .int .i64 a0_2, .int .i64 a0_3, .int .i64 a0_4, .int .i64 a0_5, .int .i64 a0_6, .int .i64 a0_7, .int .i64 a0_8, .int .i64 a0_9, .int .i64 a0_10, .int .i64 a0_11] 23 (0, 0)) (by (with_reducible repeat (first | refine blk_drewN ?_ _ | refine blk_drew ?_ | refine blk_alloc ?_ _)); exact BK333.out) hb); have n2_ := Aside0.mk (below_step (by repeat (first | (with_reducible first | exact HB.out | apply below_alloc | apply pw_below_drewN | apply below_drew1 | refine below_set ?_ GE333.out) | exact HB.out)) hb); clear HO_9; clear BK333; clear HB; have HO_9 := n0_; have BK333 := n1_; have HB := n2_; clear n0_ n1_ n2_; (try clear hb); (try clear hb2); (try clear hk); (try clear hi)) | ((with_reducible refine gate_dst (N := 15) rfl ?_); (try (refine gate_guard (by rfl) ?_; dsimp only)); refine box_event ?hg (N := 15) ?hd (cs := #[.int .i64 0, .int .i64 0]) (t := 33) ?hr ?_; (case hd => rfl); (case hg => rfl); (case hr => first | (go_simp; done) | (go_simp; rfl)); intro gb345 hg w98 hbox hb; have n0_ := Aside0.mk (Kd.R_below (Kd.R_elderB (by (with_reducible repeat (first | apply Kd.R_alloc | apply Kd.R_drewN | apply Kd.R_drew)); exact HO_9.out) gb345 (Nat.le_of_eq hg.symm)) hb); have n1_ := Aside0.mk (blk_below (g := gb333) (o := .cells #[.int .i64 a0_0, .int .i64 a0_1, .int .i64 a0_2, .int .i64 a0_3, .int .i64 a0_4, .int .i64 a0_5, .int .i64 a0_6, .int .i64 a0_7, .int .i64 a0_8, .int .i64 a0_9, .int .i64 a0_10, .int .i64 a0_11] 23 (0, 0)) (by (with_reducible repeat (first | refine blk_drewN ?_ _ | refine blk_drew ?_ | refine blk_alloc ?_ _)); exact BK333.out) hb); have n2_ := Aside0.mk (below_step (by repeat (first | (with_reducible first | exact HB.out | apply below_alloc | apply pw_below_drewN | apply below_drew1 | refine below_set ?_ GE333.out) | exact HB.out)) hb); have n3_ := Aside0.mk (hbox); have n4_ := Aside0.mk ((by rw [hg]; exact (below_size (by repeat (first | (with_reducible first | exact HB.out | apply below_alloc | apply pw_below_drewN | apply below_drew1 | refine below_set ?_ GE333.out) | exact HB.out))) : w.heap.size ≤ gb345)); have n5_ := Aside0.mk ((by rw [hg]; exact (below_size (by repeat (first | (with_reducible first | exact HB.out | apply below_alloc | apply pw_below_drewN | apply below_drew1 | refine below_set ?_ GE333.out) | exact HB.out))) : w.heap.size ≤ gb345)); have n6_ := Aside0.mk ((by rw [hg]; exact Nat.ne_of_lt (blk_lt (g := gb333) (o := .cells #[.int .i64 a0_0, .int .i64 a0_1, .int .i64 a0_2, .int .i64 a0_3, .int .i64 a0_4, .int .i64 a0_5, .int .i64 a0_6, .int .i64 a0_7, .int .i64 a0_8, .int .i64 a0_9, .int .i64 a0_10, .int .i64 a0_11] 23 (0, 0)) (by (with_reducible repeat (first | refine blk_drewN ?_ _ | refine blk_drew ?_ | refine blk_alloc ?_ _)); exact BK333.out)) : gb333 ≠ gb345)); have n7_ := Aside0.mk ((by rw [hg]; exact Nat.ne_of_gt (blk_lt (g := gb333) (o := .cells #[.int .i64 a0_0, .int .i64 a0_1, .int .i64 a0_2, .int .i64 a0_3, .int .i64 a0_4, .int .i64 a0_5, .int .i64 a0_6, .int .i64 a0_7, .int .i64 a0_8, .int .i64 a0_9, .int .i64 a0_10, .int .i64 a0_11] 23 (0, 0)) (by (with_reducible repeat (first | refine blk_drewN ?_ _ | refine blk_drew ?_ | refine blk_alloc ?_ _)); exact BK333.out)) : gb345 ≠ gb333)); clear HO_9; clear BK333; clear HB; have HO_9 := n0_; have BK333 := n1_; have HB := n2_; have BK345 := n3_; have GW345 := n4_; have GE345 := n5_; have NB333_345 := n6_; have NB345_333 := n7_; clear n0_ n1_ n2_ n3_ n4_ n5_ n6_ n7_; clear hb hbox hg; have hnb99 := NB345_333.out; have hnc99 := NB333_345.out; have hcz100_0 : w98.cell? ⟨gb345, 0, none⟩ = some (.int .i64 0) := (blk_cell BK345.out 0).trans rfl; have hcz100_1 : w98.cell? ⟨gb345, 1, none⟩ = some (.int .i64 0) := (blk_cell BK345.out 1).trans rfl; have hfz100_0 := blk_frozen BK345.out 0; have hfz100_1 := blk_frozen BK345.out 1))
                        have n0_ : Aside0 (Kd.R k33 33 ((w98.setCell ⟨gb345, 0, none⟩ (.int .i64 t342)).setCell ⟨gb345, 1, none⟩ (.int .i64 t343)) w.heap.size (fun k_ => k_ ≠ gb345) (.slice Ao96 x9_2.length co96) x9_2) := ⟨by (with_reducible repeat (first | apply Kd.R_alloc | apply Kd.R_drewN | apply Kd.R_drew)); exact Kd.R_mono (Kd.R_far (p := ⟨gb345, 1, none⟩) (Kd.R_far (p := ⟨gb345, 0, none⟩) (Kd.R_mono HO_9.out (fun k_ hk => (⟨hk, hk.2⟩ : _ ∧ k_ ≠ gb345))) (fun _ hk => hk.2) (.int .i64 t342)) (fun _ hk => hk.2) (.int .i64 t343)) (fun _ hk => hk.1.2)⟩
                        have n1_ : Aside0 (((w98.setCell ⟨gb345, 0, none⟩ (.int .i64 t342)).setCell ⟨gb345, 1, none⟩ (.int .i64 t343)).heap[gb333]? = some (.cells #[.int .i64 a0_0, .int .i64 a0_1, .int .i64 a0_2, .int .i64 a0_3, .int .i64 a0_4, .int .i64 a0_5, .int .i64 a0_6, .int .i64 a0_7, .int .i64 a0_8, .int .i64 a0_9, .int .i64 a0_10, .int .i64 a0_11] 23 (0, 0))) := ⟨by (with_reducible repeat (first | refine blk_drewN ?_ _ | refine blk_drew ?_ | refine blk_alloc ?_ _)); refine blk_far ?_ NB333_345.out _; (with_reducible repeat (first | refine blk_drewN ?_ _ | refine blk_drew ?_ | refine blk_alloc ?_ _)); refine blk_far ?_ NB333_345.out _; (with_reducible repeat (first | refine blk_drewN ?_ _ | refine blk_drew ?_ | refine blk_alloc ?_ _)); exact BK333.out⟩
                        have n2_ : Aside0 (((w98.setCell ⟨gb345, 0, none⟩ (.int .i64 t342)).setCell ⟨gb345, 1, none⟩ (.int .i64 t343)).heap[gb345]? = some (.cells #[.int .i64 t342, .int .i64 t343] 33 (0, 0))) := ⟨by (with_reducible repeat (first | refine blk_drewN ?_ _ | refine blk_drew ?_ | refine blk_alloc ?_ _)); refine blk_put (cs := #[.int .i64 t342, .int .i64 0]) ?_ 1 _ rfl; (with_reducible repeat (first | refine blk_drewN ?_ _ | refine blk_drew ?_ | refine blk_alloc ?_ _)); refine blk_put (cs := #[.int .i64 0, .int .i64 0]) ?_ 0 _ rfl; (with_reducible repeat (first | refine blk_drewN ?_ _ | refine blk_drew ?_ | refine blk_alloc ?_ _)); exact BK345.out⟩
                        have n3_ : Aside0 (Below w.heap.size w ((w98.setCell ⟨gb345, 0, none⟩ (.int .i64 t342)).setCell ⟨gb345, 1, none⟩ (.int .i64 t343))) := ⟨by repeat (first | (with_reducible first | exact HB.out | apply below_alloc | apply pw_below_drewN | apply below_drew1 | refine below_set ?_ GE333.out | refine below_set ?_ GE345.out) | exact HB.out)⟩
                        (try clear HO_9)
                        (try clear BK333)
                        (try clear BK345)
                        (try clear HB)
                        generalize ((w98.setCell ⟨gb345, 0, none⟩ (.int .i64 t342)).setCell ⟨gb345, 1, none⟩ (.int .i64 t343)) = w101 at n0_ n1_ n2_ n3_ ⊢
                        have HO_9 := n0_
                        have BK333 := n1_
                        have BK345 := n2_
                        have HB := n3_
                        clear n0_ n1_ n2_ n3_
                        have n0_ := Aside0.mk (Kd.R_drew HO_9.out)
                        have n1_ := Aside0.mk (blk_drew BK333.out)
                        have n2_ := Aside0.mk (blk_drew BK345.out)
                        have n3_ := Aside0.mk (below_drew1 HB.out)
                        clear HO_9
                        clear BK333
                        clear BK345
                        clear HB
                        have HO_9 := n0_
                        have BK333 := n1_
                        have BK345 := n2_
                        have HB := n3_
                        clear n0_ n1_ n2_ n3_
                        refine start_ (n := 28) (S := fun w' => w'.cell? ⟨gb345, 0, none⟩ = some (.int .i64 t342) ∧ w'.cell? ⟨gb345, 1, none⟩ = some (.int .i64 t343) ∧ w'.cell? ⟨gb333, 0, none⟩ = some (.int .i64 a0_0) ∧ w'.cell? ⟨gb333, 1, none⟩ = some (.int .i64 a0_1) ∧ w'.cell? ⟨gb333, 2, none⟩ = some (.int .i64 a0_2) ∧ w'.cell? ⟨gb333, 3, none⟩ = some (.int .i64 a0_3) ∧ w'.cell? ⟨gb333, 4, none⟩ = some (.int .i64 a0_4) ∧ w'.cell? ⟨gb333, 5, none⟩ = some (.int .i64 a0_5) ∧ w'.cell? ⟨gb333, 6, none⟩ = some (.int .i64 a0_6) ∧ w'.cell? ⟨gb333, 7, none⟩ = some (.int .i64 a0_7) ∧ w'.cell? ⟨gb333, 8, none⟩ = some (.int .i64 a0_8) ∧ w'.cell? ⟨gb333, 9, none⟩ = some (.int .i64 a0_9) ∧ w'.cell? ⟨gb333, 10, none⟩ = some (.int .i64 a0_10) ∧ w'.cell? ⟨gb333, 11, none⟩ = some (.int .i64 a0_11)) (ds := []) #[false, false, false, false, false, false, false, false, false, false, false, false, false, false, false, false, false, false, false, false, false, false, false, false, false, false, false, false] (by kernel_rfl) rfl rfl ⟨(blk_cell BK345.out 0).trans rfl, (blk_cell BK345.out 1).trans rfl, (blk_cell BK333.out 0).trans rfl, (blk_cell BK333.out 1).trans rfl, (blk_cell BK333.out 2).trans rfl, (blk_cell BK333.out 3).trans rfl, (blk_cell BK333.out 4).trans rfl, (blk_cell BK333.out 5).trans rfl, (blk_cell BK333.out 6).trans rfl, (blk_cell BK333.out 7).trans rfl, (blk_cell BK333.out 8).trans rfl, (blk_cell BK333.out 9).trans rfl, (blk_cell BK333.out 10).trans rfl, (blk_cell BK333.out 11).trans rfl⟩ (fun hHeld => ?_); refine with_tabW clepsydralaw16_AnchorHolds.tab18 clepsydralaw16_AnchorHolds.bits18 (fun HT_ HW_ => ?_)
                        generalize w101.drew = w102 at HO_9 BK333 BK345 HB hHeld ⊢
                        refine pure_ (i := 0) (N := some 141) (v := ?_) (a' := ?_) #[true, false, false, false, false, false, false, false, false, false, false, false, false, false, false, false, false, false, false, false, false, false, false, false, false, false, false, false] rfl rfl (any_of HT_.out (by kernel_rfl)) (fun _ _ _ h => h) (Or.inl ⟨by rfl, ?_⟩) ?_ ?_
                        rotate_left
                        · intro w'
                          go_simp
                          with_reducible rfl
                        rotate_left
                        · simp only [Act.put, List.setIfInBounds_toArray, List.set_cons_zero, List.set_cons_succ, i64_w, i32_w]
                          rfl
                        refine pure_ (i := 1) (N := some 142) (v := ?_) (a' := ?_) #[true, true, false, false, false, false, false, false, false, false, false, false, false, false, false, false, false, false, false, false, false, false, false, false, false, false, false, false] rfl rfl (any_of HT_.out (by kernel_rfl)) (fun _ _ _ h => h) (Or.inl ⟨by rfl, ?_⟩) ?_ ?_
                        rotate_left
                        · intro w'
                          go_simp
                          with_reducible rfl
                        rotate_left
                        · simp only [Act.put, List.setIfInBounds_toArray, List.set_cons_zero, List.set_cons_succ, i64_w, i32_w]
                          rfl
                        refine pure_ (i := 2) (N := some 143) (v := ?_) (a' := ?_) #[true, true, true, false, false, false, false, false, false, false, false, false, false, false, false, false, false, false, false, false, false, false, false, false, false, false, false, false] rfl rfl (any_of HT_.out (by kernel_rfl)) (fun _ _ _ h => h) (Or.inl ⟨by rfl, ?_⟩) ?_ ?_
                        rotate_left
                        · intro w'
                          go_simp
                          with_reducible rfl
                        rotate_left
                        · simp only [Act.put, List.setIfInBounds_toArray, List.set_cons_zero, List.set_cons_succ, i64_w, i32_w]
                          rfl
                        refine pure_ (i := 4) (N := some 145) (v := ?_) (a' := ?_) #[true, true, true, false, true, false, false, false, false, false, false, false, false, false, false, false, false, false, false, false, false, false, false, false, false, false, false, false] rfl rfl (any_of HT_.out (by kernel_rfl)) (fun _ _ _ h => h) (Or.inl ⟨by rfl, ?_⟩) ?_ ?_
                        rotate_left
                        · intro w'
                          go_simp
                          with_reducible rfl
                        rotate_left
                        · simp only [Act.put, List.setIfInBounds_toArray, List.set_cons_zero, List.set_cons_succ, i64_w, i32_w]
                          rfl
                        refine take_ (i := 3) (N := some 144) (v := ?_) (a' := ?_) #[true, true, true, true, true, false, false, false, false, false, false, false, false, false, false, false, false, false, false, false, false, false, false, false, false, false, false, false] rfl rfl (take_ofW HT_.out HW_.out (by kernel_rfl)) (fun _ _ _ h => h) (Or.inl ⟨by rfl, ?_⟩) hHeld ?_ ?_
                        rotate_left
                        · rintro w' ⟨s0, s1, s2, s3, s4, s5, s6, s7, s8, s9, s10, s11, s12, s13⟩
                          go_simp
                          with_reducible rfl
                        rotate_left
                        · simp only [Act.put, List.setIfInBounds_toArray, List.set_cons_zero, List.set_cons_succ, i64_w, i32_w]
                          rfl
                        refine pure_ (i := 5) (N := some 146) (v := ?_) (a' := ?_) #[true, true, true, true, true, true, false, false, false, false, false, false, false, false, false, false, false, false, false, false, false, false, false, false, false, false, false, false] rfl rfl (any_of HT_.out (by kernel_rfl)) (fun _ _ _ h => h) (Or.inl ⟨by rfl, ?_⟩) ?_ ?_
                        rotate_left
                        · intro w'
                          go_simp
                          with_reducible rfl
                        rotate_left
                        · simp only [Act.put, List.setIfInBounds_toArray, List.set_cons_zero, List.set_cons_succ, i64_w, i32_w]
                          rfl
                        refine pure_ (i := 6) (N := some 147) (v := ?_) (a' := ?_) #[true, true, true, true, true, true, true, false, false, false, false, false, false, false, false, false, false, false, false, false, false, false, false, false, false, false, false, false] rfl rfl (any_of HT_.out (by kernel_rfl)) (fun _ _ _ h => h) (Or.inl ⟨by rfl, ?_⟩) ?_ ?_
                        rotate_left
                        · intro w'
                          go_simp
                          with_reducible rfl
                        rotate_left
                        · simp only [Act.put, List.setIfInBounds_toArray, List.set_cons_zero, List.set_cons_succ, i64_w, i32_w]
                          rfl
                        refine pure_ (i := 7) (N := some 148) (v := ?_) (a' := ?_) #[true, true, true, true, true, true, true, true, false, false, false, false, false, false, false, false, false, false, false, false, false, false, false, false, false, false, false, false] rfl rfl (any_of HT_.out (by kernel_rfl)) (fun _ _ _ h => h) (Or.inl ⟨by rfl, ?_⟩) ?_ ?_
                        rotate_left
                        · intro w'
                          go_simp
                          with_reducible rfl
                        rotate_left
                        · simp only [Act.put, List.setIfInBounds_toArray, List.set_cons_zero, List.set_cons_succ, i64_w, i32_w]
                          rfl
                        refine pure_ (i := 8) (N := some 149) (v := ?_) (a' := ?_) #[true, true, true, true, true, true, true, true, true, false, false, false, false, false, false, false, false, false, false, false, false, false, false, false, false, false, false, false] rfl rfl (any_of HT_.out (by kernel_rfl)) (fun _ _ _ h => h) (Or.inl ⟨by rfl, ?_⟩) ?_ ?_
                        rotate_left
                        · intro w'
                          go_simp
                          with_reducible rfl
                        rotate_left
                        · simp only [Act.put, List.setIfInBounds_toArray, List.set_cons_zero, List.set_cons_succ, i64_w, i32_w]
                          rfl
                        refine pure_ (i := 9) (N := some 150) (v := ?_) (a' := ?_) #[true, true, true, true, true, true, true, true, true, true, false, false, false, false, false, false, false, false, false, false, false, false, false, false, false, false, false, false] rfl rfl (any_of HT_.out (by kernel_rfl)) (fun _ _ _ h => h) (Or.inl ⟨by rfl, ?_⟩) ?_ ?_
                        rotate_left
                        · intro w'
                          go_simp
                          with_reducible rfl
                        rotate_left
                        · simp only [Act.put, List.setIfInBounds_toArray, List.set_cons_zero, List.set_cons_succ, i64_w, i32_w]
                          rfl
                        refine take_ (i := 10) (N := some 151) (v := ?_) (a' := ?_) #[true, true, true, true, true, true, true, true, true, true, true, false, false, false, false, false, false, false, false, false, false, false, false, false, false, false, false, false] rfl rfl (take_ofW HT_.out HW_.out (by kernel_rfl)) (fun _ _ _ h => h) (Or.inl ⟨by rfl, ?_⟩) hHeld ?_ ?_
                        rotate_left
                        · rintro w' ⟨s0, s1, s2, s3, s4, s5, s6, s7, s8, s9, s10, s11, s12, s13⟩
                          go_simp
                          with_reducible rfl
                        rotate_left
                        · simp only [Act.put, List.setIfInBounds_toArray, List.set_cons_zero, List.set_cons_succ, i64_w, i32_w]
                          rfl
                        refine pure_ (i := 11) (N := some 152) (v := ?_) (a' := ?_) #[true, true, true, true, true, true, true, true, true, true, true, true, false, false, false, false, false, false, false, false, false, false, false, false, false, false, false, false] rfl rfl (any_of HT_.out (by kernel_rfl)) (fun _ _ _ h => h) (Or.inl ⟨by rfl, ?_⟩) ?_ ?_
                        rotate_left
                        · intro w'
                          go_simp
                          with_reducible rfl
                        rotate_left
                        · simp only [Act.put, List.setIfInBounds_toArray, List.set_cons_zero, List.set_cons_succ, i64_w, i32_w]
                          rfl
                        refine pure_ (i := 12) (N := some 153) (v := ?_) (a' := ?_) #[true, true, true, true, true, true, true, true, true, true, true, true, true, false, false, false, false, false, false, false, false, false, false, false, false, false, false, false] rfl rfl (any_of HT_.out (by kernel_rfl)) (fun _ _ _ h => h) (Or.inl ⟨by rfl, ?_⟩) ?_ ?_
                        rotate_left
                        · intro w'
                          go_simp
                          with_reducible rfl
                        rotate_left
                        · simp only [Act.put, List.setIfInBounds_toArray, List.set_cons_zero, List.set_cons_succ, i64_w, i32_w]
                          rfl
                        refine pure_ (i := 13) (N := some 154) (v := ?_) (a' := ?_) #[true, true, true, true, true, true, true, true, true, true, true, true, true, true, false, false, false, false, false, false, false, false, false, false, false, false, false, false] rfl rfl (any_of HT_.out (by kernel_rfl)) (fun _ _ _ h => h) (Or.inl ⟨by rfl, ?_⟩) ?_ ?_
                        rotate_left
                        · intro w'
                          go_simp
                          with_reducible rfl
                        rotate_left
                        · simp only [Act.put, List.setIfInBounds_toArray, List.set_cons_zero, List.set_cons_succ, i64_w, i32_w]
                          rfl
                        refine pure_ (i := 14) (N := some 155) (v := ?_) (a' := ?_) #[true, true, true, true, true, true, true, true, true, true, true, true, true, true, true, false, false, false, false, false, false, false, false, false, false, false, false, false] rfl rfl (any_of HT_.out (by kernel_rfl)) (fun _ _ _ h => h) (Or.inl ⟨by rfl, ?_⟩) ?_ ?_
                        rotate_left
                        · intro w'
                          go_simp
                          with_reducible rfl
                        rotate_left
                        · simp only [Act.put, List.setIfInBounds_toArray, List.set_cons_zero, List.set_cons_succ, i64_w, i32_w]
                          rfl
                        refine pure_ (i := 16) (N := some 157) (v := ?_) (a' := ?_) #[true, true, true, true, true, true, true, true, true, true, true, true, true, true, true, false, true, false, false, false, false, false, false, false, false, false, false, false] rfl rfl (any_of HT_.out (by kernel_rfl)) (fun _ _ _ h => h) (Or.inl ⟨by rfl, ?_⟩) ?_ ?_
                        rotate_left
                        · intro w'
                          go_simp
                          with_reducible rfl
                        rotate_left
                        · simp only [Act.put, List.setIfInBounds_toArray, List.set_cons_zero, List.set_cons_succ, i64_w, i32_w]
                          rfl
                        refine pure_ (i := 19) (N := some 160) (v := ?_) (a' := ?_) #[true, true, true, true, true, true, true, true, true, true, true, true, true, true, true, false, true, false, false, true, false, false, false, false, false, false, false, false] rfl rfl (any_of HT_.out (by kernel_rfl)) (fun _ _ _ h => h) (Or.inl ⟨by rfl, ?_⟩) ?_ ?_
                        rotate_left
                        · intro w'
                          go_simp
                          with_reducible rfl
                        rotate_left
                        · simp only [Act.put, List.setIfInBounds_toArray, List.set_cons_zero, List.set_cons_succ, i64_w, i32_w]
                          rfl
                        refine take_ (i := 15) (N := some 156) (v := ?_) (a' := ?_) #[true, true, true, true, true, true, true, true, true, true, true, true, true, true, true, true, true, false, false, true, false, false, false, false, false, false, false, false] rfl rfl (take_ofW HT_.out HW_.out (by kernel_rfl)) (fun _ _ _ h => h) (Or.inl ⟨by rfl, ?_⟩) hHeld ?_ ?_
                        rotate_left
                        · rintro w' ⟨s0, s1, s2, s3, s4, s5, s6, s7, s8, s9, s10, s11, s12, s13⟩
                          go_simp
                          with_reducible rfl
                        rotate_left
                        · simp only [Act.put, List.setIfInBounds_toArray, List.set_cons_zero, List.set_cons_succ, i64_w, i32_w]
                          rfl
                        refine take_ (i := 17) (N := some 158) (v := ?_) (a' := ?_) #[true, true, true, true, true, true, true, true, true, true, true, true, true, true, true, true, true, true, false, true, false, false, false, false, false, false, false, false] rfl rfl (take_ofW HT_.out HW_.out (by kernel_rfl)) (fun _ _ _ h => h) (Or.inl ⟨by rfl, ?_⟩) hHeld ?_ ?_
                        rotate_left
                        · rintro w' ⟨s0, s1, s2, s3, s4, s5, s6, s7, s8, s9, s10, s11, s12, s13⟩
                          go_simp
                          with_reducible rfl
                        rotate_left
                        · simp only [Act.put, List.setIfInBounds_toArray, List.set_cons_zero, List.set_cons_succ, i64_w, i32_w]
                          rfl
                        refine pure_ (i := 18) (N := some 159) (v := ?_) (a' := ?_) #[true, true, true, true, true, true, true, true, true, true, true, true, true, true, true, true, true, true, true, true, false, false, false, false, false, false, false, false] rfl rfl (any_of HT_.out (by kernel_rfl)) (fun _ _ _ h => h) (Or.inl ⟨by rfl, ?_⟩) ?_ ?_
                        rotate_left
                        · intro w'
                          go_simp
                          with_reducible rfl
                        rotate_left
                        · simp only [Act.put, List.setIfInBounds_toArray, List.set_cons_zero, List.set_cons_succ, i64_w, i32_w]
                          rfl
                        refine take_ (i := 20) (N := some 161) (v := ?_) (a' := ?_) #[true, true, true, true, true, true, true, true, true, true, true, true, true, true, true, true, true, true, true, true, true, false, false, false, false, false, false, false] rfl rfl (take_ofW HT_.out HW_.out (by kernel_rfl)) (fun _ _ _ h => h) (Or.inl ⟨by rfl, ?_⟩) hHeld ?_ ?_
                        rotate_left
                        · rintro w' ⟨s0, s1, s2, s3, s4, s5, s6, s7, s8, s9, s10, s11, s12, s13⟩
                          go_simp
                          with_reducible rfl
                        rotate_left
                        · simp only [Act.put, List.setIfInBounds_toArray, List.set_cons_zero, List.set_cons_succ, i64_w, i32_w]
                          rfl
                        refine pure_ (i := 21) (N := some 162) (v := ?_) (a' := ?_) #[true, true, true, true, true, true, true, true, true, true, true, true, true, true, true, true, true, true, true, true, true, true, false, false, false, false, false, false] rfl rfl (any_of HT_.out (by kernel_rfl)) (fun _ _ _ h => h) (Or.inl ⟨by rfl, ?_⟩) ?_ ?_
                        rotate_left
                        · intro w'
                          go_simp
                          with_reducible rfl
                        rotate_left
                        · simp only [Act.put, List.setIfInBounds_toArray, List.set_cons_zero, List.set_cons_succ, i64_w, i32_w]
                          rfl
                        refine take_ (i := 22) (N := some 163) (v := ?_) (a' := ?_) #[true, true, true, true, true, true, true, true, true, true, true, true, true, true, true, true, true, true, true, true, true, true, true, false, false, false, false, false] rfl rfl (take_ofW HT_.out HW_.out (by kernel_rfl)) (fun _ _ _ h => h) (Or.inl ⟨by rfl, ?_⟩) hHeld ?_ ?_
                        rotate_left
                        · rintro w' ⟨s0, s1, s2, s3, s4, s5, s6, s7, s8, s9, s10, s11, s12, s13⟩
                          go_simp
                          with_reducible rfl
                        rotate_left
                        · simp only [Act.put, List.setIfInBounds_toArray, List.set_cons_zero, List.set_cons_succ, i64_w, i32_w]
                          rfl
                        refine one_ (i := 23) (N := some 164) #[true, true, true, true, true, true, true, true, true, true, true, true, true, true, true, true, true, true, true, true, true, true, true, true, false, false, false, false] rfl rfl (one_of HT_.out (by kernel_rfl)) (by decide) (fun K hK => ?_)
                        refine goes_ Try.func34 (by kernel_rfl) rfl #[.agg #[.int .i64 a0_0, .int .i64 a0_1, .int .i64 a0_2, .int .i64 a0_3, .int .i64 a0_4, .int .i64 a0_5, .int .i64 a0_6, .int .i64 a0_7, .int .i64 a0_8, .int .i64 a0_9, .int .i64 a0_10, .int .i64 a0_11]] (by rfl) rfl rfl (by (try simp only [List.map_toArray, List.map_cons, List.map_nil]); first | done | rfl | (simp only [List.length_drop, List.length_take]; rfl)) ?_
                        with_reducible refine (limit_Hop.calls k2 a0_0 a0_1 a0_2 a0_3 a0_4 a0_5 a0_6 a0_7 a0_8 a0_9 a0_10 a0_11 t346 _ A94.out).mono ?_
                        rintro e w103 ⟨rfl, hb⟩
                        refine ⟨_, rfl, ?_⟩
                        have n0_ := Aside0.mk (Kd.R_below (by (with_reducible repeat (first | apply Kd.R_alloc | apply Kd.R_drewN | apply Kd.R_drew)); exact HO_9.out) hb)
                        have n1_ := Aside0.mk (blk_below (g := gb333) (o := .cells #[.int .i64 a0_0, .int .i64 a0_1, .int .i64 a0_2, .int .i64 a0_3, .int .i64 a0_4, .int .i64 a0_5, .int .i64 a0_6, .int .i64 a0_7, .int .i64 a0_8, .int .i64 a0_9, .int .i64 a0_10, .int .i64 a0_11] 23 (0, 0)) (by (with_reducible repeat (first | refine blk_drewN ?_ _ | refine blk_drew ?_ | refine blk_alloc ?_ _)); exact BK333.out) hb)
                        have n2_ := Aside0.mk (blk_below (g := gb345) (o := .cells #[.int .i64 t342, .int .i64 t343] 33 (0, 0)) (by (with_reducible repeat (first | refine blk_drewN ?_ _ | refine blk_drew ?_ | refine blk_alloc ?_ _)); exact BK345.out) hb)
                        have n3_ := Aside0.mk (below_step (by repeat (first | (with_reducible first | exact HB.out | apply below_alloc | apply pw_below_drewN | apply below_drew1 | refine below_set ?_ GE333.out | refine below_set ?_ GE345.out) | exact HB.out)) hb)
                        clear HO_9
                        clear BK333
                        clear BK345
                        clear HB
                        have HO_9 := n0_
                        have BK333 := n1_
                        have BK345 := n2_
                        have HB := n3_
                        clear n0_ n1_ n2_ n3_
                        (try clear hb)
                        (try clear hb2)
                        (try clear hk)
                        (try clear hi)
                        refine hK.out _ _ ⟨(blk_cell BK345.out 0).trans rfl, (blk_cell BK345.out 1).trans rfl, (blk_cell BK333.out 0).trans rfl, (blk_cell BK333.out 1).trans rfl, (blk_cell BK333.out 2).trans rfl, (blk_cell BK333.out 3).trans rfl, (blk_cell BK333.out 4).trans rfl, (blk_cell BK333.out 5).trans rfl, (blk_cell BK333.out 6).trans rfl, (blk_cell BK333.out 7).trans rfl, (blk_cell BK333.out 8).trans rfl, (blk_cell BK333.out 9).trans rfl, (blk_cell BK333.out 10).trans rfl, (blk_cell BK333.out 11).trans rfl⟩ (fun hHeld => ?_)
                        clear hK K
                        refine norm_ (a' := ?_) ?_ ?_
                        rotate_left
                        · show Act.put _ (some 164) _ = _
                          simp only [Act.put, List.setIfInBounds_toArray, List.set_cons_zero, List.set_cons_succ, i64_w, i32_w]
                          rfl
                        refine pure_ (i := 24) (N := some 165) (v := ?_) (a' := ?_) #[true, true, true, true, true, true, true, true, true, true, true, true, true, true, true, true, true, true, true, true, true, true, true, true, true, false, false, false] rfl rfl (any_of HT_.out (by kernel_rfl)) (fun _ _ _ h => h) (Or.inl ⟨by rfl, ?_⟩) ?_ ?_
                        rotate_left
                        · intro w'
                          go_simp
                          with_reducible rfl
                        rotate_left
                        · simp only [Act.put, List.setIfInBounds_toArray, List.set_cons_zero, List.set_cons_succ, i64_w, i32_w]
                          rfl
                        refine pure_ (i := 25) (N := some 166) (v := ?_) (a' := ?_) #[true, true, true, true, true, true, true, true, true, true, true, true, true, true, true, true, true, true, true, true, true, true, true, true, true, true, false, false] rfl rfl (any_of HT_.out (by kernel_rfl)) (fun _ _ _ h => h) (Or.inl ⟨by rfl, ?_⟩) ?_ ?_
                        rotate_left
                        · intro w'
                          go_simp
                          with_reducible rfl
                        rotate_left
                        · simp only [Act.put, List.setIfInBounds_toArray, List.set_cons_zero, List.set_cons_succ, i64_w, i32_w]
                          rfl
                        refine pure_ (i := 26) (N := some 167) (v := ?_) (a' := ?_) #[true, true, true, true, true, true, true, true, true, true, true, true, true, true, true, true, true, true, true, true, true, true, true, true, true, true, true, false] rfl rfl (any_of HT_.out (by kernel_rfl)) (fun _ _ _ h => h) (Or.inl ⟨by rfl, ?_⟩) ?_ ?_
                        rotate_left
                        · intro w'
                          go_simp
                          with_reducible rfl
                        rotate_left
                        · simp only [Act.put, List.setIfInBounds_toArray, List.set_cons_zero, List.set_cons_succ, i64_w, i32_w]
                          rfl
                        refine pure_ (i := 27) (N := some 8) (v := ?_) (a' := ?_) #[true, true, true, true, true, true, true, true, true, true, true, true, true, true, true, true, true, true, true, true, true, true, true, true, true, true, true, true] rfl rfl (any_of HT_.out (by kernel_rfl)) (fun _ _ _ h => h) (Or.inl ⟨by rfl, ?_⟩) ?_ ?_
                        rotate_left
                        · intro w'
                          go_simp
                          with_reducible rfl
                        rotate_left
                        · simp only [Act.put, List.setIfInBounds_toArray, List.set_cons_zero, List.set_cons_succ, i64_w, i32_w]
                          rfl
                        refine done_ (done_of HT_.out (by kernel_rfl)) ?_
                        try go_wp2
                        go_ret
                        exact ⟨by first | rfl | (simp [errW_none, errW_some] <;> rfl) | (simp [*, errW_none, errW_some] <;> rfl), by repeat (first | (with_reducible first | exact HB.out | apply below_alloc | apply pw_below_drewN | apply below_drew1 | refine below_set ?_ GE333.out | refine below_set ?_ GE345.out) | exact HB.out)⟩
                      · rw [if_neg c93] at H
                        have c93b0 : decide ((wrap64 (a1 + a0_3)) ≤ t343) = false := decide_eq_false c93
                        clear c93
                        obtain rfl := Option.some.inj H
                        have hcz104_0 : wr.cell? ⟨gb333, 0, none⟩ = some (.int .i64 a0_0) := (blk_cell BK333.out 0).trans rfl
                        have hcz104_1 : wr.cell? ⟨gb333, 1, none⟩ = some (.int .i64 a0_1) := (blk_cell BK333.out 1).trans rfl
                        have hcz104_2 : wr.cell? ⟨gb333, 2, none⟩ = some (.int .i64 a0_2) := (blk_cell BK333.out 2).trans rfl
                        have hcz104_3 : wr.cell? ⟨gb333, 3, none⟩ = some (.int .i64 a0_3) := (blk_cell BK333.out 3).trans rfl
                        have hcz104_4 : wr.cell? ⟨gb333, 4, none⟩ = some (.int .i64 a0_4) := (blk_cell BK333.out 4).trans rfl
                        have hcz104_5 : wr.cell? ⟨gb333, 5, none⟩ = some (.int .i64 a0_5) := (blk_cell BK333.out 5).trans rfl
                        have hcz104_6 : wr.cell? ⟨gb333, 6, none⟩ = some (.int .i64 a0_6) := (blk_cell BK333.out 6).trans rfl
                        have hcz104_7 : wr.cell? ⟨gb333, 7, none⟩ = some (.int .i64 a0_7) := (blk_cell BK333.out 7).trans rfl
                        have hcz104_8 : wr.cell? ⟨gb333, 8, none⟩ = some (.int .i64 a0_8) := (blk_cell BK333.out 8).trans rfl
                        have hcz104_9 : wr.cell? ⟨gb333, 9, none⟩ = some (.int .i64 a0_9) := (blk_cell BK333.out 9).trans rfl
                        have hcz104_10 : wr.cell? ⟨gb333, 10, none⟩ = some (.int .i64 a0_10) := (blk_cell BK333.out 10).trans rfl
                        have hcz104_11 : wr.cell? ⟨gb333, 11, none⟩ = some (.int .i64 a0_11) := (blk_cell BK333.out 11).trans rfl
                        have hfz104_0 := blk_frozen BK333.out 0
                        have hfz104_1 := blk_frozen BK333.out 1
                        have hfz104_2 := blk_frozen BK333.out 2
                        have hfz104_3 := blk_frozen BK333.out 3
                        have hfz104_4 := blk_frozen BK333.out 4
                        have hfz104_5 := blk_frozen BK333.out 5
                        have hfz104_6 := blk_frozen BK333.out 6
                        have hfz104_7 := blk_frozen BK333.out 7
                        have hfz104_8 := blk_frozen BK333.out 8
                        have hfz104_9 := blk_frozen BK333.out 9
                        have hfz104_10 := blk_frozen BK333.out 10
                        have hfz104_11 := blk_frozen BK333.out 11
                        obtain ⟨Ao105, co105, eo105⟩ := Kd.R_slice HO_9.out
                        subst eo105
                        try go_wp2_with (first | ((with_reducible refine gate_callee (f := 28) rfl ?_); refine goesL_ (some 138) rfl rfl Try.func28 (by kernel_rfl) rfl #[.agg #[.int .i64 a0_0, .int .i64 a0_1, .int .i64 a0_2, .int .i64 a0_3, .int .i64 a0_4, .int .i64 a0_5, .int .i64 a0_6, .int .i64 a0_7, .int .i64 a0_8, .int .i64 a0_9, .int .i64 a0_10, .int .i64 a0_11], .slice Ao105 x9_2.length co105] rfl (by (try simp only [List.map_toArray, List.map_cons, List.map_nil]); first | done | rfl | (simp only [List.length_drop, List.length_take]; rfl)) ?_; (with_reducible refine (anchor_Fuse.calls k2 a0_0 a0_1 a0_2 a0_3 a0_4 a0_5 a0_6 a0_7 a0_8 a0_9 a0_10 a0_11 _ _ x9_2 t342 t343 true _ ?side1 ?side2 A90.out).mono ?_); (case side1 => repeat (first | exact (Kd.R_reads' HO_9.out).2.2 | (with_reducible refine Kd.C_alloc ?_ _) | (with_reducible refine Kd.C_drewN ?_ _) | (with_reducible refine Kd.C_drew ?_))); (case side2 => exact (Kd.R_reads' HO_9.out).2.1); rintro e w106 ⟨rfl, hb⟩; refine ⟨_, rfl, ?_⟩; have n0_ := Aside0.mk (Kd.R_below (by (with_reducible repeat (first | apply Kd.R_alloc | apply Kd.R_drewN | apply Kd.R_drew)); exact HO_9.out) hb); have n1_ := Aside0.mk (blk_below (g := gb333) (o := .cells #[.int .i64 a0_0, .int .i64 a0_1, .int .i64 a0_2, .int .i64 a0_3, .int .i64 a0_4, .int .i64 a0_5, .int .i64 a0_6, .int .i64 a0_7, .int .i64 a0_8, .int .i64 a0_9, .int .i64 a0_10, .int .i64 a0_11] 23 (0, 0)) (by (with_reducible repeat (first | refine blk_drewN ?_ _ | refine blk_drew ?_ | refine blk_alloc ?_ _)); exact BK333.out) hb); have n2_ := Aside0.mk (below_step (by repeat (first | (with_reducible first | exact HB.out | apply below_alloc | apply pw_below_drewN | apply below_drew1 | refine below_set ?_ GE333.out) | exact HB.out)) hb); clear HO_9; clear BK333; clear HB; have HO_9 := n0_; have BK333 := n1_; have HB := n2_; clear n0_ n1_ n2_; (try clear hb); (try clear hb2); (try clear hk); (try clear hi)) | ((with_reducible refine gate_dst (N := 15) rfl ?_); (try (refine gate_guard (by rfl) ?_; dsimp only)); refine box_event ?hg (N := 15) ?hd (cs := #[.int .i64 0, .int .i64 0]) (t := 33) ?hr ?_; (case hd => rfl); (case hg => rfl); (case hr => first | (go_simp; done) | (go_simp; rfl)); intro gb345 hg w107 hbox hb; have n0_ := Aside0.mk (Kd.R_below (Kd.R_elderB (by (with_reducible repeat (first | apply Kd.R_alloc | apply Kd.R_drewN | apply Kd.R_drew)); exact HO_9.out) gb345 (Nat.le_of_eq hg.symm)) hb); have n1_ := Aside0.mk (blk_below (g := gb333) (o := .cells #[.int .i64 a0_0, .int .i64 a0_1, .int .i64 a0_2, .int .i64 a0_3, .int .i64 a0_4, .int .i64 a0_5, .int .i64 a0_6, .int .i64 a0_7, .int .i64 a0_8, .int .i64 a0_9, .int .i64 a0_10, .int .i64 a0_11] 23 (0, 0)) (by (with_reducible repeat (first | refine blk_drewN ?_ _ | refine blk_drew ?_ | refine blk_alloc ?_ _)); exact BK333.out) hb); have n2_ := Aside0.mk (below_step (by repeat (first | (with_reducible first | exact HB.out | apply below_alloc | apply pw_below_drewN | apply below_drew1 | refine below_set ?_ GE333.out) | exact HB.out)) hb); have n3_ := Aside0.mk (hbox); have n4_ := Aside0.mk ((by rw [hg]; exact (below_size (by repeat (first | (with_reducible first | exact HB.out | apply below_alloc | apply pw_below_drewN | apply below_drew1 | refine below_set ?_ GE333.out) | exact HB.out))) : w.heap.size ≤ gb345)); have n5_ := Aside0.mk ((by rw [hg]; exact (below_size (by repeat (first | (with_reducible first | exact HB.out | apply below_alloc | apply pw_below_drewN | apply below_drew1 | refine below_set ?_ GE333.out) | exact HB.out))) : w.heap.size ≤ gb345)); have n6_ := Aside0.mk ((by rw [hg]; exact Nat.ne_of_lt (blk_lt (g := gb333) (o := .cells #[.int .i64 a0_0, .int .i64 a0_1, .int .i64 a0_2, .int .i64 a0_3, .int .i64 a0_4, .int .i64 a0_5, .int .i64 a0_6, .int .i64 a0_7, .int .i64 a0_8, .int .i64 a0_9, .int .i64 a0_10, .int .i64 a0_11] 23 (0, 0)) (by (with_reducible repeat (first | refine blk_drewN ?_ _ | refine blk_drew ?_ | refine blk_alloc ?_ _)); exact BK333.out)) : gb333 ≠ gb345)); have n7_ := Aside0.mk ((by rw [hg]; exact Nat.ne_of_gt (blk_lt (g := gb333) (o := .cells #[.int .i64 a0_0, .int .i64 a0_1, .int .i64 a0_2, .int .i64 a0_3, .int .i64 a0_4, .int .i64 a0_5, .int .i64 a0_6, .int .i64 a0_7, .int .i64 a0_8, .int .i64 a0_9, .int .i64 a0_10, .int .i64 a0_11] 23 (0, 0)) (by (with_reducible repeat (first | refine blk_drewN ?_ _ | refine blk_drew ?_ | refine blk_alloc ?_ _)); exact BK333.out)) : gb345 ≠ gb333)); clear HO_9; clear BK333; clear HB; have HO_9 := n0_; have BK333 := n1_; have HB := n2_; have BK345 := n3_; have GW345 := n4_; have GE345 := n5_; have NB333_345 := n6_; have NB345_333 := n7_; clear n0_ n1_ n2_ n3_ n4_ n5_ n6_ n7_; clear hb hbox hg; have hnb108 := NB345_333.out; have hnc108 := NB333_345.out; have hcz109_0 : w107.cell? ⟨gb345, 0, none⟩ = some (.int .i64 0) := (blk_cell BK345.out 0).trans rfl; have hcz109_1 : w107.cell? ⟨gb345, 1, none⟩ = some (.int .i64 0) := (blk_cell BK345.out 1).trans rfl; have hfz109_0 := blk_frozen BK345.out 0; have hfz109_1 := blk_frozen BK345.out 1))
                        have n0_ : Aside0 (Kd.R k33 33 ((w107.setCell ⟨gb345, 0, none⟩ (.int .i64 t342)).setCell ⟨gb345, 1, none⟩ (.int .i64 t343)) w.heap.size (fun k_ => k_ ≠ gb345) (.slice Ao105 x9_2.length co105) x9_2) := ⟨by (with_reducible repeat (first | apply Kd.R_alloc | apply Kd.R_drewN | apply Kd.R_drew)); exact Kd.R_mono (Kd.R_far (p := ⟨gb345, 1, none⟩) (Kd.R_far (p := ⟨gb345, 0, none⟩) (Kd.R_mono HO_9.out (fun k_ hk => (⟨hk, hk.2⟩ : _ ∧ k_ ≠ gb345))) (fun _ hk => hk.2) (.int .i64 t342)) (fun _ hk => hk.2) (.int .i64 t343)) (fun _ hk => hk.1.2)⟩
                        have n1_ : Aside0 (((w107.setCell ⟨gb345, 0, none⟩ (.int .i64 t342)).setCell ⟨gb345, 1, none⟩ (.int .i64 t343)).heap[gb333]? = some (.cells #[.int .i64 a0_0, .int .i64 a0_1, .int .i64 a0_2, .int .i64 a0_3, .int .i64 a0_4, .int .i64 a0_5, .int .i64 a0_6, .int .i64 a0_7, .int .i64 a0_8, .int .i64 a0_9, .int .i64 a0_10, .int .i64 a0_11] 23 (0, 0))) := ⟨by (with_reducible repeat (first | refine blk_drewN ?_ _ | refine blk_drew ?_ | refine blk_alloc ?_ _)); refine blk_far ?_ NB333_345.out _; (with_reducible repeat (first | refine blk_drewN ?_ _ | refine blk_drew ?_ | refine blk_alloc ?_ _)); refine blk_far ?_ NB333_345.out _; (with_reducible repeat (first | refine blk_drewN ?_ _ | refine blk_drew ?_ | refine blk_alloc ?_ _)); exact BK333.out⟩
                        have n2_ : Aside0 (((w107.setCell ⟨gb345, 0, none⟩ (.int .i64 t342)).setCell ⟨gb345, 1, none⟩ (.int .i64 t343)).heap[gb345]? = some (.cells #[.int .i64 t342, .int .i64 t343] 33 (0, 0))) := ⟨by (with_reducible repeat (first | refine blk_drewN ?_ _ | refine blk_drew ?_ | refine blk_alloc ?_ _)); refine blk_put (cs := #[.int .i64 t342, .int .i64 0]) ?_ 1 _ rfl; (with_reducible repeat (first | refine blk_drewN ?_ _ | refine blk_drew ?_ | refine blk_alloc ?_ _)); refine blk_put (cs := #[.int .i64 0, .int .i64 0]) ?_ 0 _ rfl; (with_reducible repeat (first | refine blk_drewN ?_ _ | refine blk_drew ?_ | refine blk_alloc ?_ _)); exact BK345.out⟩
                        have n3_ : Aside0 (Below w.heap.size w ((w107.setCell ⟨gb345, 0, none⟩ (.int .i64 t342)).setCell ⟨gb345, 1, none⟩ (.int .i64 t343))) := ⟨by repeat (first | (with_reducible first | exact HB.out | apply below_alloc | apply pw_below_drewN | apply below_drew1 | refine below_set ?_ GE333.out | refine below_set ?_ GE345.out) | exact HB.out)⟩
                        (try clear HO_9)
                        (try clear BK333)
                        (try clear BK345)
                        (try clear HB)
                        generalize ((w107.setCell ⟨gb345, 0, none⟩ (.int .i64 t342)).setCell ⟨gb345, 1, none⟩ (.int .i64 t343)) = w110 at n0_ n1_ n2_ n3_ ⊢
                        have HO_9 := n0_
                        have BK333 := n1_
                        have BK345 := n2_
                        have HB := n3_
                        clear n0_ n1_ n2_ n3_
                        have n0_ := Aside0.mk (Kd.R_drew HO_9.out)
                        have n1_ := Aside0.mk (blk_drew BK333.out)
                        have n2_ := Aside0.mk (blk_drew BK345.out)
                        have n3_ := Aside0.mk (below_drew1 HB.out)
                        clear HO_9
                        clear BK333
                        clear BK345
                        clear HB
                        have HO_9 := n0_
                        have BK333 := n1_
                        have BK345 := n2_
                        have HB := n3_
                        clear n0_ n1_ n2_ n3_
                        refine start_ (n := 28) (S := fun w' => w'.cell? ⟨gb345, 0, none⟩ = some (.int .i64 t342) ∧ w'.cell? ⟨gb345, 1, none⟩ = some (.int .i64 t343)) (ds := []) #[false, false, false, false, false, false, false, false, false, false, false, false, false, false, false, false, false, false, false, false, false, false, false, false, false, false, false, false] (by kernel_rfl) rfl rfl ⟨(blk_cell BK345.out 0).trans rfl, (blk_cell BK345.out 1).trans rfl⟩ (fun hHeld => ?_); refine with_tabW clepsydralaw16_AnchorHolds.tab18 clepsydralaw16_AnchorHolds.bits18 (fun HT_ HW_ => ?_)
                        generalize w110.drew = w111 at HO_9 BK333 BK345 HB hHeld ⊢
                        refine pure_ (i := 0) (N := some 141) (v := ?_) (a' := ?_) #[true, false, false, false, false, false, false, false, false, false, false, false, false, false, false, false, false, false, false, false, false, false, false, false, false, false, false, false] rfl rfl (any_of HT_.out (by kernel_rfl)) (fun _ _ _ h => h) (Or.inl ⟨by rfl, ?_⟩) ?_ ?_
                        rotate_left
                        · intro w'
                          go_simp
                          with_reducible rfl
                        rotate_left
                        · simp only [Act.put, List.setIfInBounds_toArray, List.set_cons_zero, List.set_cons_succ, i64_w, i32_w]
                          rfl
                        refine pure_ (i := 1) (N := some 142) (v := ?_) (a' := ?_) #[true, true, false, false, false, false, false, false, false, false, false, false, false, false, false, false, false, false, false, false, false, false, false, false, false, false, false, false] rfl rfl (any_of HT_.out (by kernel_rfl)) (fun _ _ _ h => h) (Or.inl ⟨by rfl, ?_⟩) ?_ ?_
                        rotate_left
                        · intro w'
                          go_simp
                          with_reducible rfl
                        rotate_left
                        · simp only [Act.put, List.setIfInBounds_toArray, List.set_cons_zero, List.set_cons_succ, i64_w, i32_w]
                          rfl
                        refine pure_ (i := 2) (N := some 143) (v := ?_) (a' := ?_) #[true, true, true, false, false, false, false, false, false, false, false, false, false, false, false, false, false, false, false, false, false, false, false, false, false, false, false, false] rfl rfl (any_of HT_.out (by kernel_rfl)) (fun _ _ _ h => h) (Or.inl ⟨by rfl, ?_⟩) ?_ ?_
                        rotate_left
                        · intro w'
                          go_simp
                          with_reducible rfl
                        rotate_left
                        · simp only [Act.put, List.setIfInBounds_toArray, List.set_cons_zero, List.set_cons_succ, i64_w, i32_w]
                          rfl
                        refine pure_ (i := 4) (N := some 145) (v := ?_) (a' := ?_) #[true, true, true, false, true, false, false, false, false, false, false, false, false, false, false, false, false, false, false, false, false, false, false, false, false, false, false, false] rfl rfl (any_of HT_.out (by kernel_rfl)) (fun _ _ _ h => h) (Or.inl ⟨by rfl, ?_⟩) ?_ ?_
                        rotate_left
                        · intro w'
                          go_simp
                          with_reducible rfl
                        rotate_left
                        · simp only [Act.put, List.setIfInBounds_toArray, List.set_cons_zero, List.set_cons_succ, i64_w, i32_w]
                          rfl
                        refine take_ (i := 3) (N := some 144) (v := ?_) (a' := ?_) #[true, true, true, true, true, false, false, false, false, false, false, false, false, false, false, false, false, false, false, false, false, false, false, false, false, false, false, false] rfl rfl (take_ofW HT_.out HW_.out (by kernel_rfl)) (fun _ _ _ h => h) (Or.inl ⟨by rfl, ?_⟩) hHeld ?_ ?_
                        rotate_left
                        · rintro w' ⟨s0, s1⟩
                          go_simp
                          with_reducible rfl
                        rotate_left
                        · simp only [Act.put, List.setIfInBounds_toArray, List.set_cons_zero, List.set_cons_succ, i64_w, i32_w]
                          rfl
                        refine pure_ (i := 5) (N := some 146) (v := ?_) (a' := ?_) #[true, true, true, true, true, true, false, false, false, false, false, false, false, false, false, false, false, false, false, false, false, false, false, false, false, false, false, false] rfl rfl (any_of HT_.out (by kernel_rfl)) (fun _ _ _ h => h) (Or.inl ⟨by rfl, ?_⟩) ?_ ?_
                        rotate_left
                        · intro w'
                          go_simp
                          with_reducible rfl
                        rotate_left
                        · simp only [Act.put, List.setIfInBounds_toArray, List.set_cons_zero, List.set_cons_succ, i64_w, i32_w]
                          rfl
                        refine pure_ (i := 6) (N := some 147) (v := ?_) (a' := ?_) #[true, true, true, true, true, true, true, false, false, false, false, false, false, false, false, false, false, false, false, false, false, false, false, false, false, false, false, false] rfl rfl (any_of HT_.out (by kernel_rfl)) (fun _ _ _ h => h) (Or.inl ⟨by rfl, ?_⟩) ?_ ?_
                        rotate_left
                        · intro w'
                          go_simp
                          with_reducible rfl
                        rotate_left
                        · simp only [Act.put, List.setIfInBounds_toArray, List.set_cons_zero, List.set_cons_succ, i64_w, i32_w]
                          rfl
                        refine pure_ (i := 7) (N := some 148) (v := ?_) (a' := ?_) #[true, true, true, true, true, true, true, true, false, false, false, false, false, false, false, false, false, false, false, false, false, false, false, false, false, false, false, false] rfl rfl (any_of HT_.out (by kernel_rfl)) (fun _ _ _ h => h) (Or.inl ⟨by rfl, ?_⟩) ?_ ?_
                        rotate_left
                        · intro w'
                          go_simp
                          with_reducible rfl
                        rotate_left
                        · simp only [Act.put, List.setIfInBounds_toArray, List.set_cons_zero, List.set_cons_succ, i64_w, i32_w]
                          rfl
                        refine pure_ (i := 8) (N := some 149) (v := ?_) (a' := ?_) #[true, true, true, true, true, true, true, true, true, false, false, false, false, false, false, false, false, false, false, false, false, false, false, false, false, false, false, false] rfl rfl (any_of HT_.out (by kernel_rfl)) (fun _ _ _ h => h) (Or.inl ⟨by rfl, ?_⟩) ?_ ?_
                        rotate_left
                        · intro w'
                          go_simp
                          with_reducible rfl
                        rotate_left
                        · simp only [Act.put, List.setIfInBounds_toArray, List.set_cons_zero, List.set_cons_succ, i64_w, i32_w]
                          rfl
                        refine pure_ (i := 9) (N := some 150) (v := ?_) (a' := ?_) #[true, true, true, true, true, true, true, true, true, true, false, false, false, false, false, false, false, false, false, false, false, false, false, false, false, false, false, false] rfl rfl (any_of HT_.out (by kernel_rfl)) (fun _ _ _ h => h) (Or.inl ⟨by rfl, ?_⟩) ?_ ?_
                        rotate_left
                        · intro w'
                          go_simp
                          with_reducible rfl
                        rotate_left
                        · simp only [Act.put, List.setIfInBounds_toArray, List.set_cons_zero, List.set_cons_succ, i64_w, i32_w]
                          rfl
                        refine take_ (i := 10) (N := some 151) (v := ?_) (a' := ?_) #[true, true, true, true, true, true, true, true, true, true, true, false, false, false, false, false, false, false, false, false, false, false, false, false, false, false, false, false] rfl rfl (take_ofW HT_.out HW_.out (by kernel_rfl)) (fun _ _ _ h => h) (Or.inl ⟨by rfl, ?_⟩) hHeld ?_ ?_
                        rotate_left
                        · rintro w' ⟨s0, s1⟩
                          go_simp
                          with_reducible rfl
                        rotate_left
                        · simp only [Act.put, List.setIfInBounds_toArray, List.set_cons_zero, List.set_cons_succ, i64_w, i32_w]
                          rfl
                        refine pure_ (i := 11) (N := some 152) (v := ?_) (a' := ?_) #[true, true, true, true, true, true, true, true, true, true, true, true, false, false, false, false, false, false, false, false, false, false, false, false, false, false, false, false] rfl rfl (any_of HT_.out (by kernel_rfl)) (fun _ _ _ h => h) (Or.inl ⟨by rfl, ?_⟩) ?_ ?_
                        rotate_left
                        · intro w'
                          go_simp
                          with_reducible rfl
                        rotate_left
                        · simp only [Act.put, List.setIfInBounds_toArray, List.set_cons_zero, List.set_cons_succ, i64_w, i32_w]
                          rfl
                        refine pure_ (i := 12) (N := some 153) (v := ?_) (a' := ?_) #[true, true, true, true, true, true, true, true, true, true, true, true, true, false, false, false, false, false, false, false, false, false, false, false, false, false, false, false] rfl rfl (any_of HT_.out (by kernel_rfl)) (fun _ _ _ h => h) (Or.inl ⟨by rfl, ?_⟩) ?_ ?_
                        rotate_left
                        · intro w'
                          go_simp
                          with_reducible rfl
                        rotate_left
                        · simp only [Act.put, List.setIfInBounds_toArray, List.set_cons_zero, List.set_cons_succ, i64_w, i32_w]
                          rfl
                        refine pure_ (i := 13) (N := some 154) (v := ?_) (a' := ?_) #[true, true, true, true, true, true, true, true, true, true, true, true, true, true, false, false, false, false, false, false, false, false, false, false, false, false, false, false] rfl rfl (any_of HT_.out (by kernel_rfl)) (fun _ _ _ h => h) (Or.inl ⟨by rfl, ?_⟩) ?_ ?_
                        rotate_left
                        · intro w'
                          go_simp
                          with_reducible rfl
                        rotate_left
                        · simp only [Act.put, List.setIfInBounds_toArray, List.set_cons_zero, List.set_cons_succ, i64_w, i32_w]
                          rfl
                        refine pure_ (i := 14) (N := some 155) (v := undef) (a' := ?_) #[true, true, true, true, true, true, true, true, true, true, true, true, true, true, true, false, false, false, false, false, false, false, false, false, false, false, false, false] rfl rfl (any_of HT_.out (by kernel_rfl)) (fun _ _ _ h => h) (Or.inr ⟨by rfl, rfl⟩) ?_ ?_
                        rotate_left
                        · simp only [Act.put, List.setIfInBounds_toArray, List.set_cons_zero, List.set_cons_succ, i64_w, i32_w]
                          rfl
                        refine pure_ (i := 15) (N := some 156) (v := undef) (a' := ?_) #[true, true, true, true, true, true, true, true, true, true, true, true, true, true, true, true, false, false, false, false, false, false, false, false, false, false, false, false] rfl rfl (any_of HT_.out (by kernel_rfl)) (fun _ _ _ h => h) (Or.inr ⟨by rfl, rfl⟩) ?_ ?_
                        rotate_left
                        · simp only [Act.put, List.setIfInBounds_toArray, List.set_cons_zero, List.set_cons_succ, i64_w, i32_w]
                          rfl
                        refine pure_ (i := 16) (N := some 157) (v := undef) (a' := ?_) #[true, true, true, true, true, true, true, true, true, true, true, true, true, true, true, true, true, false, false, false, false, false, false, false, false, false, false, false] rfl rfl (any_of HT_.out (by kernel_rfl)) (fun _ _ _ h => h) (Or.inr ⟨by rfl, rfl⟩) ?_ ?_
                        rotate_left
                        · simp only [Act.put, List.setIfInBounds_toArray, List.set_cons_zero, List.set_cons_succ, i64_w, i32_w]
                          rfl
                        refine pure_ (i := 17) (N := some 158) (v := undef) (a' := ?_) #[true, true, true, true, true, true, true, true, true, true, true, true, true, true, true, true, true, true, false, false, false, false, false, false, false, false, false, false] rfl rfl (any_of HT_.out (by kernel_rfl)) (fun _ _ _ h => h) (Or.inr ⟨by rfl, rfl⟩) ?_ ?_
                        rotate_left
                        · simp only [Act.put, List.setIfInBounds_toArray, List.set_cons_zero, List.set_cons_succ, i64_w, i32_w]
                          rfl
                        refine pure_ (i := 18) (N := some 159) (v := undef) (a' := ?_) #[true, true, true, true, true, true, true, true, true, true, true, true, true, true, true, true, true, true, true, false, false, false, false, false, false, false, false, false] rfl rfl (any_of HT_.out (by kernel_rfl)) (fun _ _ _ h => h) (Or.inr ⟨by rfl, rfl⟩) ?_ ?_
                        rotate_left
                        · simp only [Act.put, List.setIfInBounds_toArray, List.set_cons_zero, List.set_cons_succ, i64_w, i32_w]
                          rfl
                        refine pure_ (i := 19) (N := some 160) (v := undef) (a' := ?_) #[true, true, true, true, true, true, true, true, true, true, true, true, true, true, true, true, true, true, true, true, false, false, false, false, false, false, false, false] rfl rfl (any_of HT_.out (by kernel_rfl)) (fun _ _ _ h => h) (Or.inr ⟨by rfl, rfl⟩) ?_ ?_
                        rotate_left
                        · simp only [Act.put, List.setIfInBounds_toArray, List.set_cons_zero, List.set_cons_succ, i64_w, i32_w]
                          rfl
                        refine pure_ (i := 20) (N := some 161) (v := undef) (a' := ?_) #[true, true, true, true, true, true, true, true, true, true, true, true, true, true, true, true, true, true, true, true, true, false, false, false, false, false, false, false] rfl rfl (any_of HT_.out (by kernel_rfl)) (fun _ _ _ h => h) (Or.inr ⟨by rfl, rfl⟩) ?_ ?_
                        rotate_left
                        · simp only [Act.put, List.setIfInBounds_toArray, List.set_cons_zero, List.set_cons_succ, i64_w, i32_w]
                          rfl
                        refine pure_ (i := 21) (N := some 162) (v := undef) (a' := ?_) #[true, true, true, true, true, true, true, true, true, true, true, true, true, true, true, true, true, true, true, true, true, true, false, false, false, false, false, false] rfl rfl (any_of HT_.out (by kernel_rfl)) (fun _ _ _ h => h) (Or.inr ⟨by rfl, rfl⟩) ?_ ?_
                        rotate_left
                        · simp only [Act.put, List.setIfInBounds_toArray, List.set_cons_zero, List.set_cons_succ, i64_w, i32_w]
                          rfl
                        refine pure_ (i := 22) (N := some 163) (v := undef) (a' := ?_) #[true, true, true, true, true, true, true, true, true, true, true, true, true, true, true, true, true, true, true, true, true, true, true, false, false, false, false, false] rfl rfl (any_of HT_.out (by kernel_rfl)) (fun _ _ _ h => h) (Or.inr ⟨by rfl, rfl⟩) ?_ ?_
                        rotate_left
                        · simp only [Act.put, List.setIfInBounds_toArray, List.set_cons_zero, List.set_cons_succ, i64_w, i32_w]
                          rfl
                        refine pure_ (i := 23) (N := some 164) (v := undef) (a' := ?_) #[true, true, true, true, true, true, true, true, true, true, true, true, true, true, true, true, true, true, true, true, true, true, true, true, false, false, false, false] rfl rfl (any_of HT_.out (by kernel_rfl)) (fun _ _ _ h => h) (Or.inr ⟨by rfl, rfl⟩) ?_ ?_
                        rotate_left
                        · simp only [Act.put, List.setIfInBounds_toArray, List.set_cons_zero, List.set_cons_succ, i64_w, i32_w]
                          rfl
                        refine pure_ (i := 24) (N := some 165) (v := undef) (a' := ?_) #[true, true, true, true, true, true, true, true, true, true, true, true, true, true, true, true, true, true, true, true, true, true, true, true, true, false, false, false] rfl rfl (any_of HT_.out (by kernel_rfl)) (fun _ _ _ h => h) (Or.inr ⟨by rfl, rfl⟩) ?_ ?_
                        rotate_left
                        · simp only [Act.put, List.setIfInBounds_toArray, List.set_cons_zero, List.set_cons_succ, i64_w, i32_w]
                          rfl
                        refine pure_ (i := 25) (N := some 166) (v := undef) (a' := ?_) #[true, true, true, true, true, true, true, true, true, true, true, true, true, true, true, true, true, true, true, true, true, true, true, true, true, true, false, false] rfl rfl (any_of HT_.out (by kernel_rfl)) (fun _ _ _ h => h) (Or.inr ⟨by rfl, rfl⟩) ?_ ?_
                        rotate_left
                        · simp only [Act.put, List.setIfInBounds_toArray, List.set_cons_zero, List.set_cons_succ, i64_w, i32_w]
                          rfl
                        refine pure_ (i := 26) (N := some 167) (v := ?_) (a' := ?_) #[true, true, true, true, true, true, true, true, true, true, true, true, true, true, true, true, true, true, true, true, true, true, true, true, true, true, true, false] rfl rfl (any_of HT_.out (by kernel_rfl)) (fun _ _ _ h => h) (Or.inl ⟨by rfl, ?_⟩) ?_ ?_
                        rotate_left
                        · intro w'
                          go_simp
                          with_reducible rfl
                        rotate_left
                        · simp only [Act.put, List.setIfInBounds_toArray, List.set_cons_zero, List.set_cons_succ, i64_w, i32_w]
                          rfl
                        refine pure_ (i := 27) (N := some 8) (v := ?_) (a' := ?_) #[true, true, true, true, true, true, true, true, true, true, true, true, true, true, true, true, true, true, true, true, true, true, true, true, true, true, true, true] rfl rfl (any_of HT_.out (by kernel_rfl)) (fun _ _ _ h => h) (Or.inl ⟨by rfl, ?_⟩) ?_ ?_
                        rotate_left
                        · intro w'
                          go_simp
                          with_reducible rfl
                        rotate_left
                        · simp only [Act.put, List.setIfInBounds_toArray, List.set_cons_zero, List.set_cons_succ, i64_w, i32_w]
                          rfl
                        refine done_ (done_of HT_.out (by kernel_rfl)) ?_
                        try go_wp2
                        go_ret
                        exact ⟨by first | rfl | (simp [errW_none, errW_some] <;> rfl) | (simp [*, errW_none, errW_some] <;> rfl), by repeat (first | (with_reducible first | exact HB.out | apply below_alloc | apply pw_below_drewN | apply below_drew1 | refine below_set ?_ GE333.out | refine below_set ?_ GE345.out) | exact HB.out)⟩
                    · rw [if_neg c92] at H
                      have c92b0 : decide (t342 ≤ (wrap64 (a1 + a0_3))) = false := decide_eq_false c92
                      clear c92
                      obtain rfl := Option.some.inj H
                      have hcz112_0 : wr.cell? ⟨gb333, 0, none⟩ = some (.int .i64 a0_0) := (blk_cell BK333.out 0).trans rfl
                      have hcz112_1 : wr.cell? ⟨gb333, 1, none⟩ = some (.int .i64 a0_1) := (blk_cell BK333.out 1).trans rfl
                      have hcz112_2 : wr.cell? ⟨gb333, 2, none⟩ = some (.int .i64 a0_2) := (blk_cell BK333.out 2).trans rfl
                      have hcz112_3 : wr.cell? ⟨gb333, 3, none⟩ = some (.int .i64 a0_3) := (blk_cell BK333.out 3).trans rfl
                      have hcz112_4 : wr.cell? ⟨gb333, 4, none⟩ = some (.int .i64 a0_4) := (blk_cell BK333.out 4).trans rfl
                      have hcz112_5 : wr.cell? ⟨gb333, 5, none⟩ = some (.int .i64 a0_5) := (blk_cell BK333.out 5).trans rfl
                      have hcz112_6 : wr.cell? ⟨gb333, 6, none⟩ = some (.int .i64 a0_6) := (blk_cell BK333.out 6).trans rfl
                      have hcz112_7 : wr.cell? ⟨gb333, 7, none⟩ = some (.int .i64 a0_7) := (blk_cell BK333.out 7).trans rfl
                      have hcz112_8 : wr.cell? ⟨gb333, 8, none⟩ = some (.int .i64 a0_8) := (blk_cell BK333.out 8).trans rfl
                      have hcz112_9 : wr.cell? ⟨gb333, 9, none⟩ = some (.int .i64 a0_9) := (blk_cell BK333.out 9).trans rfl
                      have hcz112_10 : wr.cell? ⟨gb333, 10, none⟩ = some (.int .i64 a0_10) := (blk_cell BK333.out 10).trans rfl
                      have hcz112_11 : wr.cell? ⟨gb333, 11, none⟩ = some (.int .i64 a0_11) := (blk_cell BK333.out 11).trans rfl
                      have hfz112_0 := blk_frozen BK333.out 0
                      have hfz112_1 := blk_frozen BK333.out 1
                      have hfz112_2 := blk_frozen BK333.out 2
                      have hfz112_3 := blk_frozen BK333.out 3
                      have hfz112_4 := blk_frozen BK333.out 4
                      have hfz112_5 := blk_frozen BK333.out 5
                      have hfz112_6 := blk_frozen BK333.out 6
                      have hfz112_7 := blk_frozen BK333.out 7
                      have hfz112_8 := blk_frozen BK333.out 8
                      have hfz112_9 := blk_frozen BK333.out 9
                      have hfz112_10 := blk_frozen BK333.out 10
                      have hfz112_11 := blk_frozen BK333.out 11
                      obtain ⟨Ao113, co113, eo113⟩ := Kd.R_slice HO_9.out
                      subst eo113
                      try go_wp2_with (first | ((with_reducible refine gate_callee (f := 28) rfl ?_); refine goesL_ (some 138) rfl rfl Try.func28 (by kernel_rfl) rfl #[.agg #[.int .i64 a0_0, .int .i64 a0_1, .int .i64 a0_2, .int .i64 a0_3, .int .i64 a0_4, .int .i64 a0_5, .int .i64 a0_6, .int .i64 a0_7, .int .i64 a0_8, .int .i64 a0_9, .int .i64 a0_10, .int .i64 a0_11], .slice Ao113 x9_2.length co113] rfl (by (try simp only [List.map_toArray, List.map_cons, List.map_nil]); first | done | rfl | (simp only [List.length_drop, List.length_take]; rfl)) ?_; (with_reducible refine (anchor_Fuse.calls k2 a0_0 a0_1 a0_2 a0_3 a0_4 a0_5 a0_6 a0_7 a0_8 a0_9 a0_10 a0_11 _ _ x9_2 t342 t343 true _ ?side1 ?side2 A90.out).mono ?_); (case side1 => repeat (first | exact (Kd.R_reads' HO_9.out).2.2 | (with_reducible refine Kd.C_alloc ?_ _) | (with_reducible refine Kd.C_drewN ?_ _) | (with_reducible refine Kd.C_drew ?_))); (case side2 => exact (Kd.R_reads' HO_9.out).2.1); rintro e w114 ⟨rfl, hb⟩; refine ⟨_, rfl, ?_⟩; have n0_ := Aside0.mk (Kd.R_below (by (with_reducible repeat (first | apply Kd.R_alloc | apply Kd.R_drewN | apply Kd.R_drew)); exact HO_9.out) hb); have n1_ := Aside0.mk (blk_below (g := gb333) (o := .cells #[.int .i64 a0_0, .int .i64 a0_1, .int .i64 a0_2, .int .i64 a0_3, .int .i64 a0_4, .int .i64 a0_5, .int .i64 a0_6, .int .i64 a0_7, .int .i64 a0_8, .int .i64 a0_9, .int .i64 a0_10, .int .i64 a0_11] 23 (0, 0)) (by (with_reducible repeat (first | refine blk_drewN ?_ _ | refine blk_drew ?_ | refine blk_alloc ?_ _)); exact BK333.out) hb); have n2_ := Aside0.mk (below_step (by repeat (first | (with_reducible first | exact HB.out | apply below_alloc | apply pw_below_drewN | apply below_drew1 | refine below_set ?_ GE333.out) | exact HB.out)) hb); clear HO_9; clear BK333; clear HB; have HO_9 := n0_; have BK333 := n1_; have HB := n2_; clear n0_ n1_ n2_; (try clear hb); (try clear hb2); (try clear hk); (try clear hi)) | ((with_reducible refine gate_dst (N := 15) rfl ?_); (try (refine gate_guard (by rfl) ?_; dsimp only)); refine box_event ?hg (N := 15) ?hd (cs := #[.int .i64 0, .int .i64 0]) (t := 33) ?hr ?_; (case hd => rfl); (case hg => rfl); (case hr => first | (go_simp; done) | (go_simp; rfl)); intro gb345 hg w115 hbox hb; have n0_ := Aside0.mk (Kd.R_below (Kd.R_elderB (by (with_reducible repeat (first | apply Kd.R_alloc | apply Kd.R_drewN | apply Kd.R_drew)); exact HO_9.out) gb345 (Nat.le_of_eq hg.symm)) hb); have n1_ := Aside0.mk (blk_below (g := gb333) (o := .cells #[.int .i64 a0_0, .int .i64 a0_1, .int .i64 a0_2, .int .i64 a0_3, .int .i64 a0_4, .int .i64 a0_5, .int .i64 a0_6, .int .i64 a0_7, .int .i64 a0_8, .int .i64 a0_9, .int .i64 a0_10, .int .i64 a0_11] 23 (0, 0)) (by (with_reducible repeat (first | refine blk_drewN ?_ _ | refine blk_drew ?_ | refine blk_alloc ?_ _)); exact BK333.out) hb); have n2_ := Aside0.mk (below_step (by repeat (first | (with_reducible first | exact HB.out | apply below_alloc | apply pw_below_drewN | apply below_drew1 | refine below_set ?_ GE333.out) | exact HB.out)) hb); have n3_ := Aside0.mk (hbox); have n4_ := Aside0.mk ((by rw [hg]; exact (below_size (by repeat (first | (with_reducible first | exact HB.out | apply below_alloc | apply pw_below_drewN | apply below_drew1 | refine below_set ?_ GE333.out) | exact HB.out))) : w.heap.size ≤ gb345)); have n5_ := Aside0.mk ((by rw [hg]; exact (below_size (by repeat (first | (with_reducible first | exact HB.out | apply below_alloc | apply pw_below_drewN | apply below_drew1 | refine below_set ?_ GE333.out) | exact HB.out))) : w.heap.size ≤ gb345)); have n6_ := Aside0.mk ((by rw [hg]; exact Nat.ne_of_lt (blk_lt (g := gb333) (o := .cells #[.int .i64 a0_0, .int .i64 a0_1, .int .i64 a0_2, .int .i64 a0_3, .int .i64 a0_4, .int .i64 a0_5, .int .i64 a0_6, .int .i64 a0_7, .int .i64 a0_8, .int .i64 a0_9, .int .i64 a0_10, .int .i64 a0_11] 23 (0, 0)) (by (with_reducible repeat (first | refine blk_drewN ?_ _ | refine blk_drew ?_ | refine blk_alloc ?_ _)); exact BK333.out)) : gb333 ≠ gb345)); have n7_ := Aside0.mk ((by rw [hg]; exact Nat.ne_of_gt (blk_lt (g := gb333) (o := .cells #[.int .i64 a0_0, .int .i64 a0_1, .int .i64 a0_2, .int .i64 a0_3, .int .i64 a0_4, .int .i64 a0_5, .int .i64 a0_6, .int .i64 a0_7, .int .i64 a0_8, .int .i64 a0_9, .int .i64 a0_10, .int .i64 a0_11] 23 (0, 0)) (by (with_reducible repeat (first | refine blk_drewN ?_ _ | refine blk_drew ?_ | refine blk_alloc ?_ _)); exact BK333.out)) : gb345 ≠ gb333)); clear HO_9; clear BK333; clear HB; have HO_9 := n0_; have BK333 := n1_; have HB := n2_; have BK345 := n3_; have GW345 := n4_; have GE345 := n5_; have NB333_345 := n6_; have NB345_333 := n7_; clear n0_ n1_ n2_ n3_ n4_ n5_ n6_ n7_; clear hb hbox hg; have hnb116 := NB345_333.out; have hnc116 := NB333_345.out; have hcz117_0 : w115.cell? ⟨gb345, 0, none⟩ = some (.int .i64 0) := (blk_cell BK345.out 0).trans rfl; have hcz117_1 : w115.cell? ⟨gb345, 1, none⟩ = some (.int .i64 0) := (blk_cell BK345.out 1).trans rfl; have hfz117_0 := blk_frozen BK345.out 0; have hfz117_1 := blk_frozen BK345.out 1))
                      have n0_ : Aside0 (Kd.R k33 33 ((w115.setCell ⟨gb345, 0, none⟩ (.int .i64 t342)).setCell ⟨gb345, 1, none⟩ (.int .i64 t343)) w.heap.size (fun k_ => k_ ≠ gb345) (.slice Ao113 x9_2.length co113) x9_2) := ⟨by (with_reducible repeat (first | apply Kd.R_alloc | apply Kd.R_drewN | apply Kd.R_drew)); exact Kd.R_mono (Kd.R_far (p := ⟨gb345, 1, none⟩) (Kd.R_far (p := ⟨gb345, 0, none⟩) (Kd.R_mono HO_9.out (fun k_ hk => (⟨hk, hk.2⟩ : _ ∧ k_ ≠ gb345))) (fun _ hk => hk.2) (.int .i64 t342)) (fun _ hk => hk.2) (.int .i64 t343)) (fun _ hk => hk.1.2)⟩
                      have n1_ : Aside0 (((w115.setCell ⟨gb345, 0, none⟩ (.int .i64 t342)).setCell ⟨gb345, 1, none⟩ (.int .i64 t343)).heap[gb333]? = some (.cells #[.int .i64 a0_0, .int .i64 a0_1, .int .i64 a0_2, .int .i64 a0_3, .int .i64 a0_4, .int .i64 a0_5, .int .i64 a0_6, .int .i64 a0_7, .int .i64 a0_8, .int .i64 a0_9, .int .i64 a0_10, .int .i64 a0_11] 23 (0, 0))) := ⟨by (with_reducible repeat (first | refine blk_drewN ?_ _ | refine blk_drew ?_ | refine blk_alloc ?_ _)); refine blk_far ?_ NB333_345.out _; (with_reducible repeat (first | refine blk_drewN ?_ _ | refine blk_drew ?_ | refine blk_alloc ?_ _)); refine blk_far ?_ NB333_345.out _; (with_reducible repeat (first | refine blk_drewN ?_ _ | refine blk_drew ?_ | refine blk_alloc ?_ _)); exact BK333.out⟩
                      have n2_ : Aside0 (((w115.setCell ⟨gb345, 0, none⟩ (.int .i64 t342)).setCell ⟨gb345, 1, none⟩ (.int .i64 t343)).heap[gb345]? = some (.cells #[.int .i64 t342, .int .i64 t343] 33 (0, 0))) := ⟨by (with_reducible repeat (first | refine blk_drewN ?_ _ | refine blk_drew ?_ | refine blk_alloc ?_ _)); refine blk_put (cs := #[.int .i64 t342, .int .i64 0]) ?_ 1 _ rfl; (with_reducible repeat (first | refine blk_drewN ?_ _ | refine blk_drew ?_ | refine blk_alloc ?_ _)); refine blk_put (cs := #[.int .i64 0, .int .i64 0]) ?_ 0 _ rfl; (with_reducible repeat (first | refine blk_drewN ?_ _ | refine blk_drew ?_ | refine blk_alloc ?_ _)); exact BK345.out⟩
                      have n3_ : Aside0 (Below w.heap.size w ((w115.setCell ⟨gb345, 0, none⟩ (.int .i64 t342)).setCell ⟨gb345, 1, none⟩ (.int .i64 t343))) := ⟨by repeat (first | (with_reducible first | exact HB.out | apply below_alloc | apply pw_below_drewN | apply below_drew1 | refine below_set ?_ GE333.out | refine below_set ?_ GE345.out) | exact HB.out)⟩
                      (try clear HO_9)
                      (try clear BK333)
                      (try clear BK345)
                      (try clear HB)
                      generalize ((w115.setCell ⟨gb345, 0, none⟩ (.int .i64 t342)).setCell ⟨gb345, 1, none⟩ (.int .i64 t343)) = w118 at n0_ n1_ n2_ n3_ ⊢
                      have HO_9 := n0_
                      have BK333 := n1_
                      have BK345 := n2_
                      have HB := n3_
                      clear n0_ n1_ n2_ n3_
                      have n0_ := Aside0.mk (Kd.R_drew HO_9.out)
                      have n1_ := Aside0.mk (blk_drew BK333.out)
                      have n2_ := Aside0.mk (blk_drew BK345.out)
                      have n3_ := Aside0.mk (below_drew1 HB.out)
                      clear HO_9
                      clear BK333
                      clear BK345
                      clear HB
                      have HO_9 := n0_
                      have BK333 := n1_
                      have BK345 := n2_
                      have HB := n3_
                      clear n0_ n1_ n2_ n3_
                      refine start_ (n := 28) (S := fun w' => w'.cell? ⟨gb345, 0, none⟩ = some (.int .i64 t342) ∧ w'.cell? ⟨gb345, 1, none⟩ = some (.int .i64 t343)) (ds := []) #[false, false, false, false, false, false, false, false, false, false, false, false, false, false, false, false, false, false, false, false, false, false, false, false, false, false, false, false] (by kernel_rfl) rfl rfl ⟨(blk_cell BK345.out 0).trans rfl, (blk_cell BK345.out 1).trans rfl⟩ (fun hHeld => ?_); refine with_tabW clepsydralaw16_AnchorHolds.tab18 clepsydralaw16_AnchorHolds.bits18 (fun HT_ HW_ => ?_)
                      generalize w118.drew = w119 at HO_9 BK333 BK345 HB hHeld ⊢
                      refine pure_ (i := 0) (N := some 141) (v := ?_) (a' := ?_) #[true, false, false, false, false, false, false, false, false, false, false, false, false, false, false, false, false, false, false, false, false, false, false, false, false, false, false, false] rfl rfl (any_of HT_.out (by kernel_rfl)) (fun _ _ _ h => h) (Or.inl ⟨by rfl, ?_⟩) ?_ ?_
                      rotate_left
                      · intro w'
                        go_simp
                        with_reducible rfl
                      rotate_left
                      · simp only [Act.put, List.setIfInBounds_toArray, List.set_cons_zero, List.set_cons_succ, i64_w, i32_w]
                        rfl
                      refine pure_ (i := 1) (N := some 142) (v := ?_) (a' := ?_) #[true, true, false, false, false, false, false, false, false, false, false, false, false, false, false, false, false, false, false, false, false, false, false, false, false, false, false, false] rfl rfl (any_of HT_.out (by kernel_rfl)) (fun _ _ _ h => h) (Or.inl ⟨by rfl, ?_⟩) ?_ ?_
                      rotate_left
                      · intro w'
                        go_simp
                        with_reducible rfl
                      rotate_left
                      · simp only [Act.put, List.setIfInBounds_toArray, List.set_cons_zero, List.set_cons_succ, i64_w, i32_w]
                        rfl
                      refine pure_ (i := 2) (N := some 143) (v := ?_) (a' := ?_) #[true, true, true, false, false, false, false, false, false, false, false, false, false, false, false, false, false, false, false, false, false, false, false, false, false, false, false, false] rfl rfl (any_of HT_.out (by kernel_rfl)) (fun _ _ _ h => h) (Or.inl ⟨by rfl, ?_⟩) ?_ ?_
                      rotate_left
                      · intro w'
                        go_simp
                        with_reducible rfl
                      rotate_left
                      · simp only [Act.put, List.setIfInBounds_toArray, List.set_cons_zero, List.set_cons_succ, i64_w, i32_w]
                        rfl
                      refine pure_ (i := 4) (N := some 145) (v := ?_) (a' := ?_) #[true, true, true, false, true, false, false, false, false, false, false, false, false, false, false, false, false, false, false, false, false, false, false, false, false, false, false, false] rfl rfl (any_of HT_.out (by kernel_rfl)) (fun _ _ _ h => h) (Or.inl ⟨by rfl, ?_⟩) ?_ ?_
                      rotate_left
                      · intro w'
                        go_simp
                        with_reducible rfl
                      rotate_left
                      · simp only [Act.put, List.setIfInBounds_toArray, List.set_cons_zero, List.set_cons_succ, i64_w, i32_w]
                        rfl
                      refine take_ (i := 3) (N := some 144) (v := ?_) (a' := ?_) #[true, true, true, true, true, false, false, false, false, false, false, false, false, false, false, false, false, false, false, false, false, false, false, false, false, false, false, false] rfl rfl (take_ofW HT_.out HW_.out (by kernel_rfl)) (fun _ _ _ h => h) (Or.inl ⟨by rfl, ?_⟩) hHeld ?_ ?_
                      rotate_left
                      · rintro w' ⟨s0, s1⟩
                        go_simp
                        with_reducible rfl
                      rotate_left
                      · simp only [Act.put, List.setIfInBounds_toArray, List.set_cons_zero, List.set_cons_succ, i64_w, i32_w]
                        rfl
                      refine pure_ (i := 5) (N := some 146) (v := ?_) (a' := ?_) #[true, true, true, true, true, true, false, false, false, false, false, false, false, false, false, false, false, false, false, false, false, false, false, false, false, false, false, false] rfl rfl (any_of HT_.out (by kernel_rfl)) (fun _ _ _ h => h) (Or.inl ⟨by rfl, ?_⟩) ?_ ?_
                      rotate_left
                      · intro w'
                        go_simp
                        with_reducible rfl
                      rotate_left
                      · simp only [Act.put, List.setIfInBounds_toArray, List.set_cons_zero, List.set_cons_succ, i64_w, i32_w]
                        rfl
                      refine pure_ (i := 6) (N := some 147) (v := ?_) (a' := ?_) #[true, true, true, true, true, true, true, false, false, false, false, false, false, false, false, false, false, false, false, false, false, false, false, false, false, false, false, false] rfl rfl (any_of HT_.out (by kernel_rfl)) (fun _ _ _ h => h) (Or.inl ⟨by rfl, ?_⟩) ?_ ?_
                      rotate_left
                      · intro w'
                        go_simp
                        with_reducible rfl
                      rotate_left
                      · simp only [Act.put, List.setIfInBounds_toArray, List.set_cons_zero, List.set_cons_succ, i64_w, i32_w]
                        rfl
                      refine pure_ (i := 7) (N := some 148) (v := ?_) (a' := ?_) #[true, true, true, true, true, true, true, true, false, false, false, false, false, false, false, false, false, false, false, false, false, false, false, false, false, false, false, false] rfl rfl (any_of HT_.out (by kernel_rfl)) (fun _ _ _ h => h) (Or.inl ⟨by rfl, ?_⟩) ?_ ?_
                      rotate_left
                      · intro w'
                        go_simp
                        with_reducible rfl
                      rotate_left
                      · simp only [Act.put, List.setIfInBounds_toArray, List.set_cons_zero, List.set_cons_succ, i64_w, i32_w]
                        rfl
                      refine pure_ (i := 8) (N := some 149) (v := undef) (a' := ?_) #[true, true, true, true, true, true, true, true, true, false, false, false, false, false, false, false, false, false, false, false, false, false, false, false, false, false, false, false] rfl rfl (any_of HT_.out (by kernel_rfl)) (fun _ _ _ h => h) (Or.inr ⟨by rfl, rfl⟩) ?_ ?_
                      rotate_left
                      · simp only [Act.put, List.setIfInBounds_toArray, List.set_cons_zero, List.set_cons_succ, i64_w, i32_w]
                        rfl
                      refine pure_ (i := 9) (N := some 150) (v := undef) (a' := ?_) #[true, true, true, true, true, true, true, true, true, true, false, false, false, false, false, false, false, false, false, false, false, false, false, false, false, false, false, false] rfl rfl (any_of HT_.out (by kernel_rfl)) (fun _ _ _ h => h) (Or.inr ⟨by rfl, rfl⟩) ?_ ?_
                      rotate_left
                      · simp only [Act.put, List.setIfInBounds_toArray, List.set_cons_zero, List.set_cons_succ, i64_w, i32_w]
                        rfl
                      refine pure_ (i := 10) (N := some 151) (v := undef) (a' := ?_) #[true, true, true, true, true, true, true, true, true, true, true, false, false, false, false, false, false, false, false, false, false, false, false, false, false, false, false, false] rfl rfl (any_of HT_.out (by kernel_rfl)) (fun _ _ _ h => h) (Or.inr ⟨by rfl, rfl⟩) ?_ ?_
                      rotate_left
                      · simp only [Act.put, List.setIfInBounds_toArray, List.set_cons_zero, List.set_cons_succ, i64_w, i32_w]
                        rfl
                      refine pure_ (i := 11) (N := some 152) (v := undef) (a' := ?_) #[true, true, true, true, true, true, true, true, true, true, true, true, false, false, false, false, false, false, false, false, false, false, false, false, false, false, false, false] rfl rfl (any_of HT_.out (by kernel_rfl)) (fun _ _ _ h => h) (Or.inr ⟨by rfl, rfl⟩) ?_ ?_
                      rotate_left
                      · simp only [Act.put, List.setIfInBounds_toArray, List.set_cons_zero, List.set_cons_succ, i64_w, i32_w]
                        rfl
                      refine pure_ (i := 12) (N := some 153) (v := ?_) (a' := ?_) #[true, true, true, true, true, true, true, true, true, true, true, true, true, false, false, false, false, false, false, false, false, false, false, false, false, false, false, false] rfl rfl (any_of HT_.out (by kernel_rfl)) (fun _ _ _ h => h) (Or.inl ⟨by rfl, ?_⟩) ?_ ?_
                      rotate_left
                      · intro w'
                        go_simp
                        with_reducible rfl
                      rotate_left
                      · simp only [Act.put, List.setIfInBounds_toArray, List.set_cons_zero, List.set_cons_succ, i64_w, i32_w]
                        rfl
                      refine pure_ (i := 13) (N := some 154) (v := ?_) (a' := ?_) #[true, true, true, true, true, true, true, true, true, true, true, true, true, true, false, false, false, false, false, false, false, false, false, false, false, false, false, false] rfl rfl (any_of HT_.out (by kernel_rfl)) (fun _ _ _ h => h) (Or.inl ⟨by rfl, ?_⟩) ?_ ?_
                      rotate_left
                      · intro w'
                        go_simp
                        with_reducible rfl
                      rotate_left
                      · simp only [Act.put, List.setIfInBounds_toArray, List.set_cons_zero, List.set_cons_succ, i64_w, i32_w]
                        rfl
                      refine pure_ (i := 14) (N := some 155) (v := undef) (a' := ?_) #[true, true, true, true, true, true, true, true, true, true, true, true, true, true, true, false, false, false, false, false, false, false, false, false, false, false, false, false] rfl rfl (any_of HT_.out (by kernel_rfl)) (fun _ _ _ h => h) (Or.inr ⟨by rfl, rfl⟩) ?_ ?_
                      rotate_left
                      · simp only [Act.put, List.setIfInBounds_toArray, List.set_cons_zero, List.set_cons_succ, i64_w, i32_w]
                        rfl
                      refine pure_ (i := 15) (N := some 156) (v := undef) (a' := ?_) #[true, true, true, true, true, true, true, true, true, true, true, true, true, true, true, true, false, false, false, false, false, false, false, false, false, false, false, false] rfl rfl (any_of HT_.out (by kernel_rfl)) (fun _ _ _ h => h) (Or.inr ⟨by rfl, rfl⟩) ?_ ?_
                      rotate_left
                      · simp only [Act.put, List.setIfInBounds_toArray, List.set_cons_zero, List.set_cons_succ, i64_w, i32_w]
                        rfl
                      refine pure_ (i := 16) (N := some 157) (v := undef) (a' := ?_) #[true, true, true, true, true, true, true, true, true, true, true, true, true, true, true, true, true, false, false, false, false, false, false, false, false, false, false, false] rfl rfl (any_of HT_.out (by kernel_rfl)) (fun _ _ _ h => h) (Or.inr ⟨by rfl, rfl⟩) ?_ ?_
                      rotate_left
                      · simp only [Act.put, List.setIfInBounds_toArray, List.set_cons_zero, List.set_cons_succ, i64_w, i32_w]
                        rfl
                      refine pure_ (i := 17) (N := some 158) (v := undef) (a' := ?_) #[true, true, true, true, true, true, true, true, true, true, true, true, true, true, true, true, true, true, false, false, false, false, false, false, false, false, false, false] rfl rfl (any_of HT_.out (by kernel_rfl)) (fun _ _ _ h => h) (Or.inr ⟨by rfl, rfl⟩) ?_ ?_
                      rotate_left
                      · simp only [Act.put, List.setIfInBounds_toArray, List.set_cons_zero, List.set_cons_succ, i64_w, i32_w]
                        rfl
                      refine pure_ (i := 18) (N := some 159) (v := undef) (a' := ?_) #[true, true, true, true, true, true, true, true, true, true, true, true, true, true, true, true, true, true, true, false, false, false, false, false, false, false, false, false] rfl rfl (any_of HT_.out (by kernel_rfl)) (fun _ _ _ h => h) (Or.inr ⟨by rfl, rfl⟩) ?_ ?_
                      rotate_left
                      · simp only [Act.put, List.setIfInBounds_toArray, List.set_cons_zero, List.set_cons_succ, i64_w, i32_w]
                        rfl
                      refine pure_ (i := 19) (N := some 160) (v := undef) (a' := ?_) #[true, true, true, true, true, true, true, true, true, true, true, true, true, true, true, true, true, true, true, true, false, false, false, false, false, false, false, false] rfl rfl (any_of HT_.out (by kernel_rfl)) (fun _ _ _ h => h) (Or.inr ⟨by rfl, rfl⟩) ?_ ?_
                      rotate_left
                      · simp only [Act.put, List.setIfInBounds_toArray, List.set_cons_zero, List.set_cons_succ, i64_w, i32_w]
                        rfl
                      refine pure_ (i := 20) (N := some 161) (v := undef) (a' := ?_) #[true, true, true, true, true, true, true, true, true, true, true, true, true, true, true, true, true, true, true, true, true, false, false, false, false, false, false, false] rfl rfl (any_of HT_.out (by kernel_rfl)) (fun _ _ _ h => h) (Or.inr ⟨by rfl, rfl⟩) ?_ ?_
                      rotate_left
                      · simp only [Act.put, List.setIfInBounds_toArray, List.set_cons_zero, List.set_cons_succ, i64_w, i32_w]
                        rfl
                      refine pure_ (i := 21) (N := some 162) (v := undef) (a' := ?_) #[true, true, true, true, true, true, true, true, true, true, true, true, true, true, true, true, true, true, true, true, true, true, false, false, false, false, false, false] rfl rfl (any_of HT_.out (by kernel_rfl)) (fun _ _ _ h => h) (Or.inr ⟨by rfl, rfl⟩) ?_ ?_
                      rotate_left
                      · simp only [Act.put, List.setIfInBounds_toArray, List.set_cons_zero, List.set_cons_succ, i64_w, i32_w]
                        rfl
                      refine pure_ (i := 22) (N := some 163) (v := undef) (a' := ?_) #[true, true, true, true, true, true, true, true, true, true, true, true, true, true, true, true, true, true, true, true, true, true, true, false, false, false, false, false] rfl rfl (any_of HT_.out (by kernel_rfl)) (fun _ _ _ h => h) (Or.inr ⟨by rfl, rfl⟩) ?_ ?_
                      rotate_left
                      · simp only [Act.put, List.setIfInBounds_toArray, List.set_cons_zero, List.set_cons_succ, i64_w, i32_w]
                        rfl
                      refine pure_ (i := 23) (N := some 164) (v := undef) (a' := ?_) #[true, true, true, true, true, true, true, true, true, true, true, true, true, true, true, true, true, true, true, true, true, true, true, true, false, false, false, false] rfl rfl (any_of HT_.out (by kernel_rfl)) (fun _ _ _ h => h) (Or.inr ⟨by rfl, rfl⟩) ?_ ?_
                      rotate_left
                      · simp only [Act.put, List.setIfInBounds_toArray, List.set_cons_zero, List.set_cons_succ, i64_w, i32_w]
                        rfl
                      refine pure_ (i := 24) (N := some 165) (v := undef) (a' := ?_) #[true, true, true, true, true, true, true, true, true, true, true, true, true, true, true, true, true, true, true, true, true, true, true, true, true, false, false, false] rfl rfl (any_of HT_.out (by kernel_rfl)) (fun _ _ _ h => h) (Or.inr ⟨by rfl, rfl⟩) ?_ ?_
                      rotate_left
                      · simp only [Act.put, List.setIfInBounds_toArray, List.set_cons_zero, List.set_cons_succ, i64_w, i32_w]
                        rfl
                      refine pure_ (i := 25) (N := some 166) (v := undef) (a' := ?_) #[true, true, true, true, true, true, true, true, true, true, true, true, true, true, true, true, true, true, true, true, true, true, true, true, true, true, false, false] rfl rfl (any_of HT_.out (by kernel_rfl)) (fun _ _ _ h => h) (Or.inr ⟨by rfl, rfl⟩) ?_ ?_
                      rotate_left
                      · simp only [Act.put, List.setIfInBounds_toArray, List.set_cons_zero, List.set_cons_succ, i64_w, i32_w]
                        rfl
                      refine pure_ (i := 26) (N := some 167) (v := ?_) (a' := ?_) #[true, true, true, true, true, true, true, true, true, true, true, true, true, true, true, true, true, true, true, true, true, true, true, true, true, true, true, false] rfl rfl (any_of HT_.out (by kernel_rfl)) (fun _ _ _ h => h) (Or.inl ⟨by rfl, ?_⟩) ?_ ?_
                      rotate_left
                      · intro w'
                        go_simp
                        with_reducible rfl
                      rotate_left
                      · simp only [Act.put, List.setIfInBounds_toArray, List.set_cons_zero, List.set_cons_succ, i64_w, i32_w]
                        rfl
                      refine pure_ (i := 27) (N := some 8) (v := ?_) (a' := ?_) #[true, true, true, true, true, true, true, true, true, true, true, true, true, true, true, true, true, true, true, true, true, true, true, true, true, true, true, true] rfl rfl (any_of HT_.out (by kernel_rfl)) (fun _ _ _ h => h) (Or.inl ⟨by rfl, ?_⟩) ?_ ?_
                      rotate_left
                      · intro w'
                        go_simp
                        with_reducible rfl
                      rotate_left
                      · simp only [Act.put, List.setIfInBounds_toArray, List.set_cons_zero, List.set_cons_succ, i64_w, i32_w]
                        rfl
                      refine done_ (done_of HT_.out (by kernel_rfl)) ?_
                      try go_wp2
                      go_ret
                      exact ⟨by first | rfl | (simp [errW_none, errW_some] <;> rfl) | (simp [*, errW_none, errW_some] <;> rfl), by repeat (first | (with_reducible first | exact HB.out | apply below_alloc | apply pw_below_drewN | apply below_drew1 | refine below_set ?_ GE333.out | refine below_set ?_ GE345.out) | exact HB.out)⟩
                  · replace c91 := Bool.eq_false_iff.mpr c91
                    subst c91
                    have H1 : (some false) = some r := by rw [if_neg (show ¬ (false = true) by decide)] at H; exact H
                    clear H
                    have H := H1
                    clear H1
                    obtain rfl := Option.some.inj H
                    have hcz120_0 : wr.cell? ⟨gb333, 0, none⟩ = some (.int .i64 a0_0) := (blk_cell BK333.out 0).trans rfl
                    have hcz120_1 : wr.cell? ⟨gb333, 1, none⟩ = some (.int .i64 a0_1) := (blk_cell BK333.out 1).trans rfl
                    have hcz120_2 : wr.cell? ⟨gb333, 2, none⟩ = some (.int .i64 a0_2) := (blk_cell BK333.out 2).trans rfl
                    have hcz120_3 : wr.cell? ⟨gb333, 3, none⟩ = some (.int .i64 a0_3) := (blk_cell BK333.out 3).trans rfl
                    have hcz120_4 : wr.cell? ⟨gb333, 4, none⟩ = some (.int .i64 a0_4) := (blk_cell BK333.out 4).trans rfl
                    have hcz120_5 : wr.cell? ⟨gb333, 5, none⟩ = some (.int .i64 a0_5) := (blk_cell BK333.out 5).trans rfl
                    have hcz120_6 : wr.cell? ⟨gb333, 6, none⟩ = some (.int .i64 a0_6) := (blk_cell BK333.out 6).trans rfl
                    have hcz120_7 : wr.cell? ⟨gb333, 7, none⟩ = some (.int .i64 a0_7) := (blk_cell BK333.out 7).trans rfl
                    have hcz120_8 : wr.cell? ⟨gb333, 8, none⟩ = some (.int .i64 a0_8) := (blk_cell BK333.out 8).trans rfl
                    have hcz120_9 : wr.cell? ⟨gb333, 9, none⟩ = some (.int .i64 a0_9) := (blk_cell BK333.out 9).trans rfl
                    have hcz120_10 : wr.cell? ⟨gb333, 10, none⟩ = some (.int .i64 a0_10) := (blk_cell BK333.out 10).trans rfl
                    have hcz120_11 : wr.cell? ⟨gb333, 11, none⟩ = some (.int .i64 a0_11) := (blk_cell BK333.out 11).trans rfl
                    have hfz120_0 := blk_frozen BK333.out 0
                    have hfz120_1 := blk_frozen BK333.out 1
                    have hfz120_2 := blk_frozen BK333.out 2
                    have hfz120_3 := blk_frozen BK333.out 3
                    have hfz120_4 := blk_frozen BK333.out 4
                    have hfz120_5 := blk_frozen BK333.out 5
                    have hfz120_6 := blk_frozen BK333.out 6
                    have hfz120_7 := blk_frozen BK333.out 7
                    have hfz120_8 := blk_frozen BK333.out 8
                    have hfz120_9 := blk_frozen BK333.out 9
                    have hfz120_10 := blk_frozen BK333.out 10
                    have hfz120_11 := blk_frozen BK333.out 11
                    obtain ⟨Ao121, co121, eo121⟩ := Kd.R_slice HO_9.out
                    subst eo121
                    try go_wp2_with (first | ((with_reducible refine gate_callee (f := 28) rfl ?_); refine goesL_ (some 138) rfl rfl Try.func28 (by kernel_rfl) rfl #[.agg #[.int .i64 a0_0, .int .i64 a0_1, .int .i64 a0_2, .int .i64 a0_3, .int .i64 a0_4, .int .i64 a0_5, .int .i64 a0_6, .int .i64 a0_7, .int .i64 a0_8, .int .i64 a0_9, .int .i64 a0_10, .int .i64 a0_11], .slice Ao121 x9_2.length co121] rfl (by (try simp only [List.map_toArray, List.map_cons, List.map_nil]); first | done | rfl | (simp only [List.length_drop, List.length_take]; rfl)) ?_; (with_reducible refine (anchor_Fuse.calls k2 a0_0 a0_1 a0_2 a0_3 a0_4 a0_5 a0_6 a0_7 a0_8 a0_9 a0_10 a0_11 _ _ x9_2 t342 t343 false _ ?side1 ?side2 A90.out).mono ?_); (case side1 => repeat (first | exact (Kd.R_reads' HO_9.out).2.2 | (with_reducible refine Kd.C_alloc ?_ _) | (with_reducible refine Kd.C_drewN ?_ _) | (with_reducible refine Kd.C_drew ?_))); (case side2 => exact (Kd.R_reads' HO_9.out).2.1); rintro e w122 ⟨rfl, hb⟩; refine ⟨_, rfl, ?_⟩; have n0_ := Aside0.mk (Kd.R_below (by (with_reducible repeat (first | apply Kd.R_alloc | apply Kd.R_drewN | apply Kd.R_drew)); exact HO_9.out) hb); have n1_ := Aside0.mk (blk_below (g := gb333) (o := .cells #[.int .i64 a0_0, .int .i64 a0_1, .int .i64 a0_2, .int .i64 a0_3, .int .i64 a0_4, .int .i64 a0_5, .int .i64 a0_6, .int .i64 a0_7, .int .i64 a0_8, .int .i64 a0_9, .int .i64 a0_10, .int .i64 a0_11] 23 (0, 0)) (by (with_reducible repeat (first | refine blk_drewN ?_ _ | refine blk_drew ?_ | refine blk_alloc ?_ _)); exact BK333.out) hb); have n2_ := Aside0.mk (below_step (by repeat (first | (with_reducible first | exact HB.out | apply below_alloc | apply pw_below_drewN | apply below_drew1 | refine below_set ?_ GE333.out) | exact HB.out)) hb); clear HO_9; clear BK333; clear HB; have HO_9 := n0_; have BK333 := n1_; have HB := n2_; clear n0_ n1_ n2_; (try clear hb); (try clear hb2); (try clear hk); (try clear hi)) | ((with_reducible refine gate_dst (N := 15) rfl ?_); (try (refine gate_guard (by rfl) ?_; dsimp only)); refine box_event ?hg (N := 15) ?hd (cs := #[.int .i64 0, .int .i64 0]) (t := 33) ?hr ?_; (case hd => rfl); (case hg => rfl); (case hr => first | (go_simp; done) | (go_simp; rfl)); intro gb345 hg w123 hbox hb; have n0_ := Aside0.mk (Kd.R_below (Kd.R_elderB (by (with_reducible repeat (first | apply Kd.R_alloc | apply Kd.R_drewN | apply Kd.R_drew)); exact HO_9.out) gb345 (Nat.le_of_eq hg.symm)) hb); have n1_ := Aside0.mk (blk_below (g := gb333) (o := .cells #[.int .i64 a0_0, .int .i64 a0_1, .int .i64 a0_2, .int .i64 a0_3, .int .i64 a0_4, .int .i64 a0_5, .int .i64 a0_6, .int .i64 a0_7, .int .i64 a0_8, .int .i64 a0_9, .int .i64 a0_10, .int .i64 a0_11] 23 (0, 0)) (by (with_reducible repeat (first | refine blk_drewN ?_ _ | refine blk_drew ?_ | refine blk_alloc ?_ _)); exact BK333.out) hb); have n2_ := Aside0.mk (below_step (by repeat (first | (with_reducible first | exact HB.out | apply below_alloc | apply pw_below_drewN | apply below_drew1 | refine below_set ?_ GE333.out) | exact HB.out)) hb); have n3_ := Aside0.mk (hbox); have n4_ := Aside0.mk ((by rw [hg]; exact (below_size (by repeat (first | (with_reducible first | exact HB.out | apply below_alloc | apply pw_below_drewN | apply below_drew1 | refine below_set ?_ GE333.out) | exact HB.out))) : w.heap.size ≤ gb345)); have n5_ := Aside0.mk ((by rw [hg]; exact (below_size (by repeat (first | (with_reducible first | exact HB.out | apply below_alloc | apply pw_below_drewN | apply below_drew1 | refine below_set ?_ GE333.out) | exact HB.out))) : w.heap.size ≤ gb345)); have n6_ := Aside0.mk ((by rw [hg]; exact Nat.ne_of_lt (blk_lt (g := gb333) (o := .cells #[.int .i64 a0_0, .int .i64 a0_1, .int .i64 a0_2, .int .i64 a0_3, .int .i64 a0_4, .int .i64 a0_5, .int .i64 a0_6, .int .i64 a0_7, .int .i64 a0_8, .int .i64 a0_9, .int .i64 a0_10, .int .i64 a0_11] 23 (0, 0)) (by (with_reducible repeat (first | refine blk_drewN ?_ _ | refine blk_drew ?_ | refine blk_alloc ?_ _)); exact BK333.out)) : gb333 ≠ gb345)); have n7_ := Aside0.mk ((by rw [hg]; exact Nat.ne_of_gt (blk_lt (g := gb333) (o := .cells #[.int .i64 a0_0, .int .i64 a0_1, .int .i64 a0_2, .int .i64 a0_3, .int .i64 a0_4, .int .i64 a0_5, .int .i64 a0_6, .int .i64 a0_7, .int .i64 a0_8, .int .i64 a0_9, .int .i64 a0_10, .int .i64 a0_11] 23 (0, 0)) (by (with_reducible repeat (first | refine blk_drewN ?_ _ | refine blk_drew ?_ | refine blk_alloc ?_ _)); exact BK333.out)) : gb345 ≠ gb333)); clear HO_9; clear BK333; clear HB; have HO_9 := n0_; have BK333 := n1_; have HB := n2_; have BK345 := n3_; have GW345 := n4_; have GE345 := n5_; have NB333_345 := n6_; have NB345_333 := n7_; clear n0_ n1_ n2_ n3_ n4_ n5_ n6_ n7_; clear hb hbox hg; have hnb124 := NB345_333.out; have hnc124 := NB333_345.out; have hcz125_0 : w123.cell? ⟨gb345, 0, none⟩ = some (.int .i64 0) := (blk_cell BK345.out 0).trans rfl; have hcz125_1 : w123.cell? ⟨gb345, 1, none⟩ = some (.int .i64 0) := (blk_cell BK345.out 1).trans rfl; have hfz125_0 := blk_frozen BK345.out 0; have hfz125_1 := blk_frozen BK345.out 1))
                    have n0_ : Aside0 (Kd.R k33 33 ((w123.setCell ⟨gb345, 0, none⟩ (.int .i64 t342)).setCell ⟨gb345, 1, none⟩ (.int .i64 t343)) w.heap.size (fun k_ => k_ ≠ gb345) (.slice Ao121 x9_2.length co121) x9_2) := ⟨by (with_reducible repeat (first | apply Kd.R_alloc | apply Kd.R_drewN | apply Kd.R_drew)); exact Kd.R_mono (Kd.R_far (p := ⟨gb345, 1, none⟩) (Kd.R_far (p := ⟨gb345, 0, none⟩) (Kd.R_mono HO_9.out (fun k_ hk => (⟨hk, hk.2⟩ : _ ∧ k_ ≠ gb345))) (fun _ hk => hk.2) (.int .i64 t342)) (fun _ hk => hk.2) (.int .i64 t343)) (fun _ hk => hk.1.2)⟩
                    have n1_ : Aside0 (((w123.setCell ⟨gb345, 0, none⟩ (.int .i64 t342)).setCell ⟨gb345, 1, none⟩ (.int .i64 t343)).heap[gb333]? = some (.cells #[.int .i64 a0_0, .int .i64 a0_1, .int .i64 a0_2, .int .i64 a0_3, .int .i64 a0_4, .int .i64 a0_5, .int .i64 a0_6, .int .i64 a0_7, .int .i64 a0_8, .int .i64 a0_9, .int .i64 a0_10, .int .i64 a0_11] 23 (0, 0))) := ⟨by (with_reducible repeat (first | refine blk_drewN ?_ _ | refine blk_drew ?_ | refine blk_alloc ?_ _)); refine blk_far ?_ NB333_345.out _; (with_reducible repeat (first | refine blk_drewN ?_ _ | refine blk_drew ?_ | refine blk_alloc ?_ _)); refine blk_far ?_ NB333_345.out _; (with_reducible repeat (first | refine blk_drewN ?_ _ | refine blk_drew ?_ | refine blk_alloc ?_ _)); exact BK333.out⟩
                    have n2_ : Aside0 (((w123.setCell ⟨gb345, 0, none⟩ (.int .i64 t342)).setCell ⟨gb345, 1, none⟩ (.int .i64 t343)).heap[gb345]? = some (.cells #[.int .i64 t342, .int .i64 t343] 33 (0, 0))) := ⟨by (with_reducible repeat (first | refine blk_drewN ?_ _ | refine blk_drew ?_ | refine blk_alloc ?_ _)); refine blk_put (cs := #[.int .i64 t342, .int .i64 0]) ?_ 1 _ rfl; (with_reducible repeat (first | refine blk_drewN ?_ _ | refine blk_drew ?_ | refine blk_alloc ?_ _)); refine blk_put (cs := #[.int .i64 0, .int .i64 0]) ?_ 0 _ rfl; (with_reducible repeat (first | refine blk_drewN ?_ _ | refine blk_drew ?_ | refine blk_alloc ?_ _)); exact BK345.out⟩
                    have n3_ : Aside0 (Below w.heap.size w ((w123.setCell ⟨gb345, 0, none⟩ (.int .i64 t342)).setCell ⟨gb345, 1, none⟩ (.int .i64 t343))) := ⟨by repeat (first | (with_reducible first | exact HB.out | apply below_alloc | apply pw_below_drewN | apply below_drew1 | refine below_set ?_ GE333.out | refine below_set ?_ GE345.out) | exact HB.out)⟩
                    (try clear HO_9)
                    (try clear BK333)
                    (try clear BK345)
                    (try clear HB)
                    generalize ((w123.setCell ⟨gb345, 0, none⟩ (.int .i64 t342)).setCell ⟨gb345, 1, none⟩ (.int .i64 t343)) = w126 at n0_ n1_ n2_ n3_ ⊢
                    have HO_9 := n0_
                    have BK333 := n1_
                    have BK345 := n2_
                    have HB := n3_
                    clear n0_ n1_ n2_ n3_
                    have n0_ := Aside0.mk (Kd.R_drew HO_9.out)
                    have n1_ := Aside0.mk (blk_drew BK333.out)
                    have n2_ := Aside0.mk (blk_drew BK345.out)
                    have n3_ := Aside0.mk (below_drew1 HB.out)
                    clear HO_9
                    clear BK333
                    clear BK345
                    clear HB
                    have HO_9 := n0_
                    have BK333 := n1_
                    have BK345 := n2_
                    have HB := n3_
                    clear n0_ n1_ n2_ n3_
                    refine start_ (n := 28) (S := fun w' => True) (ds := []) #[false, false, false, false, false, false, false, false, false, false, false, false, false, false, false, false, false, false, false, false, false, false, false, false, false, false, false, false] (by kernel_rfl) rfl rfl trivial (fun hHeld => ?_); refine with_tabW clepsydralaw16_AnchorHolds.tab18 clepsydralaw16_AnchorHolds.bits18 (fun HT_ HW_ => ?_)
                    generalize w126.drew = w127 at HO_9 BK333 BK345 HB hHeld ⊢
                    refine pure_ (i := 0) (N := some 141) (v := ?_) (a' := ?_) #[true, false, false, false, false, false, false, false, false, false, false, false, false, false, false, false, false, false, false, false, false, false, false, false, false, false, false, false] rfl rfl (any_of HT_.out (by kernel_rfl)) (fun _ _ _ h => h) (Or.inl ⟨by rfl, ?_⟩) ?_ ?_
                    rotate_left
                    · intro w'
                      go_simp
                      with_reducible rfl
                    rotate_left
                    · simp only [Act.put, List.setIfInBounds_toArray, List.set_cons_zero, List.set_cons_succ, i64_w, i32_w]
                      rfl
                    refine pure_ (i := 1) (N := some 142) (v := ?_) (a' := ?_) #[true, true, false, false, false, false, false, false, false, false, false, false, false, false, false, false, false, false, false, false, false, false, false, false, false, false, false, false] rfl rfl (any_of HT_.out (by kernel_rfl)) (fun _ _ _ h => h) (Or.inl ⟨by rfl, ?_⟩) ?_ ?_
                    rotate_left
                    · intro w'
                      go_simp
                      with_reducible rfl
                    rotate_left
                    · simp only [Act.put, List.setIfInBounds_toArray, List.set_cons_zero, List.set_cons_succ, i64_w, i32_w]
                      rfl
                    refine pure_ (i := 2) (N := some 143) (v := undef) (a' := ?_) #[true, true, true, false, false, false, false, false, false, false, false, false, false, false, false, false, false, false, false, false, false, false, false, false, false, false, false, false] rfl rfl (any_of HT_.out (by kernel_rfl)) (fun _ _ _ h => h) (Or.inr ⟨by rfl, rfl⟩) ?_ ?_
                    rotate_left
                    · simp only [Act.put, List.setIfInBounds_toArray, List.set_cons_zero, List.set_cons_succ, i64_w, i32_w]
                      rfl
                    refine pure_ (i := 3) (N := some 144) (v := undef) (a' := ?_) #[true, true, true, true, false, false, false, false, false, false, false, false, false, false, false, false, false, false, false, false, false, false, false, false, false, false, false, false] rfl rfl (any_of HT_.out (by kernel_rfl)) (fun _ _ _ h => h) (Or.inr ⟨by rfl, rfl⟩) ?_ ?_
                    rotate_left
                    · simp only [Act.put, List.setIfInBounds_toArray, List.set_cons_zero, List.set_cons_succ, i64_w, i32_w]
                      rfl
                    refine pure_ (i := 4) (N := some 145) (v := undef) (a' := ?_) #[true, true, true, true, true, false, false, false, false, false, false, false, false, false, false, false, false, false, false, false, false, false, false, false, false, false, false, false] rfl rfl (any_of HT_.out (by kernel_rfl)) (fun _ _ _ h => h) (Or.inr ⟨by rfl, rfl⟩) ?_ ?_
                    rotate_left
                    · simp only [Act.put, List.setIfInBounds_toArray, List.set_cons_zero, List.set_cons_succ, i64_w, i32_w]
                      rfl
                    refine pure_ (i := 5) (N := some 146) (v := undef) (a' := ?_) #[true, true, true, true, true, true, false, false, false, false, false, false, false, false, false, false, false, false, false, false, false, false, false, false, false, false, false, false] rfl rfl (any_of HT_.out (by kernel_rfl)) (fun _ _ _ h => h) (Or.inr ⟨by rfl, rfl⟩) ?_ ?_
                    rotate_left
                    · simp only [Act.put, List.setIfInBounds_toArray, List.set_cons_zero, List.set_cons_succ, i64_w, i32_w]
                      rfl
                    refine pure_ (i := 6) (N := some 147) (v := ?_) (a' := ?_) #[true, true, true, true, true, true, true, false, false, false, false, false, false, false, false, false, false, false, false, false, false, false, false, false, false, false, false, false] rfl rfl (any_of HT_.out (by kernel_rfl)) (fun _ _ _ h => h) (Or.inl ⟨by rfl, ?_⟩) ?_ ?_
                    rotate_left
                    · intro w'
                      go_simp
                      with_reducible rfl
                    rotate_left
                    · simp only [Act.put, List.setIfInBounds_toArray, List.set_cons_zero, List.set_cons_succ, i64_w, i32_w]
                      rfl
                    refine pure_ (i := 7) (N := some 148) (v := ?_) (a' := ?_) #[true, true, true, true, true, true, true, true, false, false, false, false, false, false, false, false, false, false, false, false, false, false, false, false, false, false, false, false] rfl rfl (any_of HT_.out (by kernel_rfl)) (fun _ _ _ h => h) (Or.inl ⟨by rfl, ?_⟩) ?_ ?_
                    rotate_left
                    · intro w'
                      go_simp
                      with_reducible rfl
                    rotate_left
                    · simp only [Act.put, List.setIfInBounds_toArray, List.set_cons_zero, List.set_cons_succ, i64_w, i32_w]
                      rfl
                    refine pure_ (i := 8) (N := some 149) (v := undef) (a' := ?_) #[true, true, true, true, true, true, true, true, true, false, false, false, false, false, false, false, false, false, false, false, false, false, false, false, false, false, false, false] rfl rfl (any_of HT_.out (by kernel_rfl)) (fun _ _ _ h => h) (Or.inr ⟨by rfl, rfl⟩) ?_ ?_
                    rotate_left
                    · simp only [Act.put, List.setIfInBounds_toArray, List.set_cons_zero, List.set_cons_succ, i64_w, i32_w]
                      rfl
                    refine pure_ (i := 9) (N := some 150) (v := undef) (a' := ?_) #[true, true, true, true, true, true, true, true, true, true, false, false, false, false, false, false, false, false, false, false, false, false, false, false, false, false, false, false] rfl rfl (any_of HT_.out (by kernel_rfl)) (fun _ _ _ h => h) (Or.inr ⟨by rfl, rfl⟩) ?_ ?_
                    rotate_left
                    · simp only [Act.put, List.setIfInBounds_toArray, List.set_cons_zero, List.set_cons_succ, i64_w, i32_w]
                      rfl
                    refine pure_ (i := 10) (N := some 151) (v := undef) (a' := ?_) #[true, true, true, true, true, true, true, true, true, true, true, false, false, false, false, false, false, false, false, false, false, false, false, false, false, false, false, false] rfl rfl (any_of HT_.out (by kernel_rfl)) (fun _ _ _ h => h) (Or.inr ⟨by rfl, rfl⟩) ?_ ?_
                    rotate_left
                    · simp only [Act.put, List.setIfInBounds_toArray, List.set_cons_zero, List.set_cons_succ, i64_w, i32_w]
                      rfl
                    refine pure_ (i := 11) (N := some 152) (v := undef) (a' := ?_) #[true, true, true, true, true, true, true, true, true, true, true, true, false, false, false, false, false, false, false, false, false, false, false, false, false, false, false, false] rfl rfl (any_of HT_.out (by kernel_rfl)) (fun _ _ _ h => h) (Or.inr ⟨by rfl, rfl⟩) ?_ ?_
                    rotate_left
                    · simp only [Act.put, List.setIfInBounds_toArray, List.set_cons_zero, List.set_cons_succ, i64_w, i32_w]
                      rfl
                    refine pure_ (i := 12) (N := some 153) (v := ?_) (a' := ?_) #[true, true, true, true, true, true, true, true, true, true, true, true, true, false, false, false, false, false, false, false, false, false, false, false, false, false, false, false] rfl rfl (any_of HT_.out (by kernel_rfl)) (fun _ _ _ h => h) (Or.inl ⟨by rfl, ?_⟩) ?_ ?_
                    rotate_left
                    · intro w'
                      go_simp
                      with_reducible rfl
                    rotate_left
                    · simp only [Act.put, List.setIfInBounds_toArray, List.set_cons_zero, List.set_cons_succ, i64_w, i32_w]
                      rfl
                    refine pure_ (i := 13) (N := some 154) (v := ?_) (a' := ?_) #[true, true, true, true, true, true, true, true, true, true, true, true, true, true, false, false, false, false, false, false, false, false, false, false, false, false, false, false] rfl rfl (any_of HT_.out (by kernel_rfl)) (fun _ _ _ h => h) (Or.inl ⟨by rfl, ?_⟩) ?_ ?_
                    rotate_left
                    · intro w'
                      go_simp
                      with_reducible rfl
                    rotate_left
                    · simp only [Act.put, List.setIfInBounds_toArray, List.set_cons_zero, List.set_cons_succ, i64_w, i32_w]
                      rfl
                    refine pure_ (i := 14) (N := some 155) (v := undef) (a' := ?_) #[true, true, true, true, true, true, true, true, true, true, true, true, true, true, true, false, false, false, false, false, false, false, false, false, false, false, false, false] rfl rfl (any_of HT_.out (by kernel_rfl)) (fun _ _ _ h => h) (Or.inr ⟨by rfl, rfl⟩) ?_ ?_
                    rotate_left
                    · simp only [Act.put, List.setIfInBounds_toArray, List.set_cons_zero, List.set_cons_succ, i64_w, i32_w]
                      rfl
                    refine pure_ (i := 15) (N := some 156) (v := undef) (a' := ?_) #[true, true, true, true, true, true, true, true, true, true, true, true, true, true, true, true, false, false, false, false, false, false, false, false, false, false, false, false] rfl rfl (any_of HT_.out (by kernel_rfl)) (fun _ _ _ h => h) (Or.inr ⟨by rfl, rfl⟩) ?_ ?_
                    rotate_left
                    · simp only [Act.put, List.setIfInBounds_toArray, List.set_cons_zero, List.set_cons_succ, i64_w, i32_w]
                      rfl
                    refine pure_ (i := 16) (N := some 157) (v := undef) (a' := ?_) #[true, true, true, true, true, true, true, true, true, true, true, true, true, true, true, true, true, false, false, false, false, false, false, false, false, false, false, false] rfl rfl (any_of HT_.out (by kernel_rfl)) (fun _ _ _ h => h) (Or.inr ⟨by rfl, rfl⟩) ?_ ?_
                    rotate_left
                    · simp only [Act.put, List.setIfInBounds_toArray, List.set_cons_zero, List.set_cons_succ, i64_w, i32_w]
                      rfl
                    refine pure_ (i := 17) (N := some 158) (v := undef) (a' := ?_) #[true, true, true, true, true, true, true, true, true, true, true, true, true, true, true, true, true, true, false, false, false, false, false, false, false, false, false, false] rfl rfl (any_of HT_.out (by kernel_rfl)) (fun _ _ _ h => h) (Or.inr ⟨by rfl, rfl⟩) ?_ ?_
                    rotate_left
                    · simp only [Act.put, List.setIfInBounds_toArray, List.set_cons_zero, List.set_cons_succ, i64_w, i32_w]
                      rfl
                    refine pure_ (i := 18) (N := some 159) (v := undef) (a' := ?_) #[true, true, true, true, true, true, true, true, true, true, true, true, true, true, true, true, true, true, true, false, false, false, false, false, false, false, false, false] rfl rfl (any_of HT_.out (by kernel_rfl)) (fun _ _ _ h => h) (Or.inr ⟨by rfl, rfl⟩) ?_ ?_
                    rotate_left
                    · simp only [Act.put, List.setIfInBounds_toArray, List.set_cons_zero, List.set_cons_succ, i64_w, i32_w]
                      rfl
                    refine pure_ (i := 19) (N := some 160) (v := undef) (a' := ?_) #[true, true, true, true, true, true, true, true, true, true, true, true, true, true, true, true, true, true, true, true, false, false, false, false, false, false, false, false] rfl rfl (any_of HT_.out (by kernel_rfl)) (fun _ _ _ h => h) (Or.inr ⟨by rfl, rfl⟩) ?_ ?_
                    rotate_left
                    · simp only [Act.put, List.setIfInBounds_toArray, List.set_cons_zero, List.set_cons_succ, i64_w, i32_w]
                      rfl
                    refine pure_ (i := 20) (N := some 161) (v := undef) (a' := ?_) #[true, true, true, true, true, true, true, true, true, true, true, true, true, true, true, true, true, true, true, true, true, false, false, false, false, false, false, false] rfl rfl (any_of HT_.out (by kernel_rfl)) (fun _ _ _ h => h) (Or.inr ⟨by rfl, rfl⟩) ?_ ?_
                    rotate_left
                    · simp only [Act.put, List.setIfInBounds_toArray, List.set_cons_zero, List.set_cons_succ, i64_w, i32_w]
                      rfl
                    refine pure_ (i := 21) (N := some 162) (v := undef) (a' := ?_) #[true, true, true, true, true, true, true, true, true, true, true, true, true, true, true, true, true, true, true, true, true, true, false, false, false, false, false, false] rfl rfl (any_of HT_.out (by kernel_rfl)) (fun _ _ _ h => h) (Or.inr ⟨by rfl, rfl⟩) ?_ ?_
                    rotate_left
                    · simp only [Act.put, List.setIfInBounds_toArray, List.set_cons_zero, List.set_cons_succ, i64_w, i32_w]
                      rfl
                    refine pure_ (i := 22) (N := some 163) (v := undef) (a' := ?_) #[true, true, true, true, true, true, true, true, true, true, true, true, true, true, true, true, true, true, true, true, true, true, true, false, false, false, false, false] rfl rfl (any_of HT_.out (by kernel_rfl)) (fun _ _ _ h => h) (Or.inr ⟨by rfl, rfl⟩) ?_ ?_
                    rotate_left
                    · simp only [Act.put, List.setIfInBounds_toArray, List.set_cons_zero, List.set_cons_succ, i64_w, i32_w]
                      rfl
                    refine pure_ (i := 23) (N := some 164) (v := undef) (a' := ?_) #[true, true, true, true, true, true, true, true, true, true, true, true, true, true, true, true, true, true, true, true, true, true, true, true, false, false, false, false] rfl rfl (any_of HT_.out (by kernel_rfl)) (fun _ _ _ h => h) (Or.inr ⟨by rfl, rfl⟩) ?_ ?_
                    rotate_left
                    · simp only [Act.put, List.setIfInBounds_toArray, List.set_cons_zero, List.set_cons_succ, i64_w, i32_w]
                      rfl
                    refine pure_ (i := 24) (N := some 165) (v := undef) (a' := ?_) #[true, true, true, true, true, true, true, true, true, true, true, true, true, true, true, true, true, true, true, true, true, true, true, true, true, false, false, false] rfl rfl (any_of HT_.out (by kernel_rfl)) (fun _ _ _ h => h) (Or.inr ⟨by rfl, rfl⟩) ?_ ?_
                    rotate_left
                    · simp only [Act.put, List.setIfInBounds_toArray, List.set_cons_zero, List.set_cons_succ, i64_w, i32_w]
                      rfl
                    refine pure_ (i := 25) (N := some 166) (v := undef) (a' := ?_) #[true, true, true, true, true, true, true, true, true, true, true, true, true, true, true, true, true, true, true, true, true, true, true, true, true, true, false, false] rfl rfl (any_of HT_.out (by kernel_rfl)) (fun _ _ _ h => h) (Or.inr ⟨by rfl, rfl⟩) ?_ ?_
                    rotate_left
                    · simp only [Act.put, List.setIfInBounds_toArray, List.set_cons_zero, List.set_cons_succ, i64_w, i32_w]
                      rfl
                    refine pure_ (i := 26) (N := some 167) (v := ?_) (a' := ?_) #[true, true, true, true, true, true, true, true, true, true, true, true, true, true, true, true, true, true, true, true, true, true, true, true, true, true, true, false] rfl rfl (any_of HT_.out (by kernel_rfl)) (fun _ _ _ h => h) (Or.inl ⟨by rfl, ?_⟩) ?_ ?_
                    rotate_left
                    · intro w'
                      go_simp
                      with_reducible rfl
                    rotate_left
                    · simp only [Act.put, List.setIfInBounds_toArray, List.set_cons_zero, List.set_cons_succ, i64_w, i32_w]
                      rfl
                    refine pure_ (i := 27) (N := some 8) (v := ?_) (a' := ?_) #[true, true, true, true, true, true, true, true, true, true, true, true, true, true, true, true, true, true, true, true, true, true, true, true, true, true, true, true] rfl rfl (any_of HT_.out (by kernel_rfl)) (fun _ _ _ h => h) (Or.inl ⟨by rfl, ?_⟩) ?_ ?_
                    rotate_left
                    · intro w'
                      go_simp
                      with_reducible rfl
                    rotate_left
                    · simp only [Act.put, List.setIfInBounds_toArray, List.set_cons_zero, List.set_cons_succ, i64_w, i32_w]
                      rfl
                    refine done_ (done_of HT_.out (by kernel_rfl)) ?_
                    try go_wp2
                    go_ret
                    exact ⟨by first | rfl | (simp [errW_none, errW_some] <;> rfl) | (simp [*, errW_none, errW_some] <;> rfl), by repeat (first | (with_reducible first | exact HB.out | apply below_alloc | apply pw_below_drewN | apply below_drew1 | refine below_set ?_ GE333.out | refine below_set ?_ GE345.out) | exact HB.out)⟩
          · rw [if_neg c31] at H
            exact absurd H (by simp)
  · replace c6 := Bool.eq_false_iff.mpr c6
    subst c6
    have H1 : (some false) = some r := by rw [if_neg (show ¬ (false = true) by decide)] at H; exact H
    clear H
    have H := H1
    clear H1
    obtain rfl := Option.some.inj H
    go_enter Try.func11, Try.ntmps11
    go_wp2_with (first | ((with_reducible refine gate_dst (N := 4) rfl ?_); (try (refine gate_guard (by rfl) ?_; dsimp only)); refine box_event ?hg (N := 4) ?hd (cs := #[.int .i64 a0_0, .int .i64 a0_1, .int .i64 a0_2, .int .i64 a0_3, .int .i64 a0_4, .int .i64 a0_5, .int .i64 a0_6, .int .i64 a0_7, .int .i64 a0_8, .int .i64 a0_9, .int .i64 a0_10, .int .i64 a0_11]) (t := 23) ?hr ?_; (case hd => rfl); (case hg => rfl); (case hr => first | (go_simp; done) | (go_simp; rfl)); intro gb333 hg w128 hbox hb; have n0_ := Aside0.mk (below_step (by repeat (first | (with_reducible first | exact HB.out | apply below_alloc | apply pw_below_drewN | apply below_drew1) | exact HB.out)) hb); have n1_ := Aside0.mk (hbox); have n2_ := Aside0.mk ((by rw [hg]; exact (below_size (by repeat (first | (with_reducible first | exact HB.out | apply below_alloc | apply pw_below_drewN | apply below_drew1) | exact HB.out))) : w.heap.size ≤ gb333)); have n3_ := Aside0.mk ((by rw [hg]; exact (below_size (by repeat (first | (with_reducible first | exact HB.out | apply below_alloc | apply pw_below_drewN | apply below_drew1) | exact HB.out))) : w.heap.size ≤ gb333)); clear HB; have HB := n0_; have BK333 := n1_; have GW333 := n2_; have GE333 := n3_; clear n0_ n1_ n2_ n3_; clear hb hbox hg) | ((with_reducible refine gate_callee (f := 23) rfl ?_); refine goesL_ (some 17) rfl rfl Try.func23 (by kernel_rfl) rfl #[] rfl (by (try simp only [List.map_toArray, List.map_cons, List.map_nil]); first | done | rfl | (simp only [List.length_drop, List.length_take]; rfl)) ?_; (with_reducible refine (clepsydralaw16_alive.calls k  false _ A5.out).mono ?_); rintro e w129 ⟨rfl, hb⟩; refine ⟨_, rfl, ?_⟩; have n0_ := Aside0.mk (blk_below (g := gb333) (o := .cells #[.int .i64 a0_0, .int .i64 a0_1, .int .i64 a0_2, .int .i64 a0_3, .int .i64 a0_4, .int .i64 a0_5, .int .i64 a0_6, .int .i64 a0_7, .int .i64 a0_8, .int .i64 a0_9, .int .i64 a0_10, .int .i64 a0_11] 23 (0, 0)) (by (with_reducible repeat (first | refine blk_drewN ?_ _ | refine blk_drew ?_ | refine blk_alloc ?_ _)); exact BK333.out) hb); have n1_ := Aside0.mk (below_step (by repeat (first | (with_reducible first | exact HB.out | apply below_alloc | apply pw_below_drewN | apply below_drew1 | refine below_set ?_ GE333.out) | exact HB.out)) hb); clear BK333; clear HB; have BK333 := n0_; have HB := n1_; clear n0_ n1_; (try clear hb); (try clear hb2); (try clear hk); (try clear hi)))
    go_ret
    exact ⟨by first | rfl | (simp [errW_none, errW_some] <;> rfl) | (simp [*, errW_none, errW_some] <;> rfl), by repeat (first | (with_reducible first | exact HB.out | apply below_alloc | apply pw_below_drewN | apply below_drew1 | refine below_set ?_ GE333.out) | exact HB.out)⟩

end Go.Proofs.Ytaiggeogiolbnaa.H
