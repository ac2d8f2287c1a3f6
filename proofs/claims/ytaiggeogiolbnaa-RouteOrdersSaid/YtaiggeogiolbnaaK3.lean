-- Laid by a program of this session out of the translation (over the print of the kit); Lean checks it.
import Derived.Test.YtaiggeogiolbnaaK0
import Derived.Test.YtaiggeogiolbnaaK1
import Derived.Test.YtaiggeogiolbnaaK2
namespace Go.Proofs.Ytaiggeogiolbnaa.K
open Go.RowKit Go.Proofs.YtaiggeogiolbnaaW.PrintWords Go.Proofs.YtaiggeogiolbnaaW.PrintLast Go.Proofs.YtaiggeogiolbnaaW.PrintMore
attribute [local go_sem] max2_int min2_int max_two min_two max_three min_three max_four min_four   -- for this text's walks alone
set_option linter.unusedVariables false
set_option linter.unusedSimpArgs false

/-! ### clepsydralaw15_RouteOrders: function 7 -/
mutual
def clepsydralaw15_RouteOrders.j0 : Nat → List (S38) → Bool → Int → Int → Int → Int → Int → Int → Int → Int → Int → Int → Int → Int → Option (Bool)
  | 0, _, _, _, _, _, _, _, _, _, _, _, _, _, _ => none
  | k + 1, x1, x21, x160000, x160001, x160002, x160003, x160004, x160005, x160006, x160007, x160008, x160009, x160010, x160011 => if x21 = true then (some true) else (clepsydralaw15_RouteOrders.l0 k x1 ([] : List (S38)) ([] : List Int) ([] : List Int) (x1.length : Int) 0 x160000 x160001 x160002 x160003 x160004 x160005 x160006 x160007 x160008 x160009 x160010 x160011)
def clepsydralaw15_RouteOrders.l0 : Nat → List (S38) → List (S38) → List Int → List Int → Int → Int → Int → Int → Int → Int → Int → Int → Int → Int → Int → Int → Int → Int → Option (Bool)
  | 0, _, _, _, _, _, _, _, _, _, _, _, _, _, _, _, _, _, _ => none
  | k + 1, x1, x5, x6, x7, x23, x24, x160000, x160001, x160002, x160003, x160004, x160005, x160006, x160007, x160008, x160009, x160010, x160011 => if x24 < x23 then (if 0 ≤ (wrap64 ((wrap64 ((x1.length : Int) - 1)) - x24)) then (if (wrap64 ((wrap64 ((x1.length : Int) - 1)) - x24)) < (x1.length : Int) then (if x5.length < 1172812402961 then (if 0 ≤ x24 then (if x24 < (x1.length : Int) then (if x6.length < 17592186044416 then (if x7.length < 17592186044416 then (clepsydralaw15_RouteOrders.l0 k x1 (x5 ++ [(⟨(rd_T38 x1 (wrap64 ((wrap64 ((x1.length : Int) - 1)) - x24))).f0, (rd_T38 x1 (wrap64 ((wrap64 ((x1.length : Int) - 1)) - x24))).f1, (⟨(rd_T38 x1 (wrap64 ((wrap64 ((x1.length : Int) - 1)) - x24))).f2.f0, (rd_T38 x1 (wrap64 ((wrap64 ((x1.length : Int) - 1)) - x24))).f2.f1⟩ : S33), (rd_T38 x1 (wrap64 ((wrap64 ((x1.length : Int) - 1)) - x24))).f3, (rd_T38 x1 (wrap64 ((wrap64 ((x1.length : Int) - 1)) - x24))).f4, (rd_T38 x1 (wrap64 ((wrap64 ((x1.length : Int) - 1)) - x24))).f5, (rd_T38 x1 (wrap64 ((wrap64 ((x1.length : Int) - 1)) - x24))).f6, (⟨(rd_T38 x1 (wrap64 ((wrap64 ((x1.length : Int) - 1)) - x24))).f7.f0, (rd_T38 x1 (wrap64 ((wrap64 ((x1.length : Int) - 1)) - x24))).f7.f1⟩ : S33), (rd_T38 x1 (wrap64 ((wrap64 ((x1.length : Int) - 1)) - x24))).f8, (⟨(rd_T38 x1 (wrap64 ((wrap64 ((x1.length : Int) - 1)) - x24))).f9.f0, (rd_T38 x1 (wrap64 ((wrap64 ((x1.length : Int) - 1)) - x24))).f9.f1⟩ : S35), (rd_T38 x1 (wrap64 ((wrap64 ((x1.length : Int) - 1)) - x24))).f10⟩ : S38)]) (x6 ++ [(rd_T38 x1 x24).f4]) (x7 ++ [(rd_T38 x1 (wrap64 ((wrap64 ((x1.length : Int) - 1)) - x24))).f4]) x23 (wrap64 (x24 + 1)) x160000 x160001 x160002 x160003 x160004 x160005 x160006 x160007 x160008 x160009 x160010 x160011) else (none)) else (none)) else (none)) else (none)) else (none)) else (none)) else (none)) else ((route_Choose.f k x160000 x160001 x160002 x160003 x160004 x160005 x160006 x160007 x160008 x160009 x160010 x160011 x1).bind fun bt174 => ((route_Choose.f k x160000 x160001 x160002 x160003 x160004 x160005 x160006 x160007 x160008 x160009 x160010 x160011 x5).bind fun bt192 => ((route_Next.f k x160000 x160001 x160002 x160003 x160004 x160005 x160006 x160007 x160008 x160009 x160010 x160011 x6).bind fun t210 => ((route_Next.f k x160000 x160001 x160002 x160003 x160004 x160005 x160006 x160007 x160008 x160009 x160010 x160011 x7).bind fun t211 => (if t210 = t211 then (if (bt174.2.2.2.2.2.2.2.2.2.2.2.2.2.2 == bt192.2.2.2.2.2.2.2.2.2.2.2.2.2.2) = true then (if bt174.2.2.2.2.2.1 = bt192.2.2.2.2.2.1 then (if bt174.2.2.2.2.1 = bt192.2.2.2.2.1 then (some (bt174.2.1 == bt192.2.1)) else (some false)) else (some false)) else (some false)) else (some false))))))
end
def clepsydralaw15_RouteOrders.f (k : Nat) (a0_0 : Int) (a0_1 : Int) (a0_2 : Int) (a0_3 : Int) (a0_4 : Int) (a0_5 : Int) (a0_6 : Int) (a0_7 : Int) (a0_8 : Int) (a0_9 : Int) (a0_10 : Int) (a0_11 : Int) (l1 : List (S38)) : Option (Bool) := (clepsydralaw15_alive.f k).bind fun t160 => (if t160 = true then ((clepsydralaw15_odd.f a0_0 a0_1 a0_2 a0_3 a0_4 a0_5 a0_6 a0_7 a0_8 a0_9 a0_10 a0_11).bind fun t161 => (if t161 = true then (clepsydralaw15_RouteOrders.j0 k l1 true a0_0 a0_1 a0_2 a0_3 a0_4 a0_5 a0_6 a0_7 a0_8 a0_9 a0_10 a0_11) else (clepsydralaw15_RouteOrders.j0 k l1 (decide ((l1.length : Int) > 256)) a0_0 a0_1 a0_2 a0_3 a0_4 a0_5 a0_6 a0_7 a0_8 a0_9 a0_10 a0_11))) else (some false))
theorem clepsydralaw15_RouteOrders.mono_l : ∀ k, (∀ y0 y1 y2 y3 y4 y5 y6 y7 y8 y9 y10 y11 y12 y13, LeO (clepsydralaw15_RouteOrders.j0 k y0 y1 y2 y3 y4 y5 y6 y7 y8 y9 y10 y11 y12 y13) (clepsydralaw15_RouteOrders.j0 (k + 1) y0 y1 y2 y3 y4 y5 y6 y7 y8 y9 y10 y11 y12 y13)) ∧ (∀ y0 y1 y2 y3 y4 y5 y6 y7 y8 y9 y10 y11 y12 y13 y14 y15 y16 y17, LeO (clepsydralaw15_RouteOrders.l0 k y0 y1 y2 y3 y4 y5 y6 y7 y8 y9 y10 y11 y12 y13 y14 y15 y16 y17) (clepsydralaw15_RouteOrders.l0 (k + 1) y0 y1 y2 y3 y4 y5 y6 y7 y8 y9 y10 y11 y12 y13 y14 y15 y16 y17))
  | 0 => ⟨fun _ _ _ _ _ _ _ _ _ _ _ _ _ _ r h => by simp [clepsydralaw15_RouteOrders.j0] at h, fun _ _ _ _ _ _ _ _ _ _ _ _ _ _ _ _ _ _ r h => by simp [clepsydralaw15_RouteOrders.l0] at h⟩
  | k + 1 => by
    obtain ⟨ih0, ih1⟩ := clepsydralaw15_RouteOrders.mono_l k
    refine ⟨?_, ?_⟩
    · intro y0 y1 y2 y3 y4 y5 y6 y7 y8 y9 y10 y11 y12 y13
      unfold clepsydralaw15_RouteOrders.j0
      repeat' first
      | (with_reducible exact ih0 _ _ _ _ _ _ _ _ _ _ _ _ _ _)
      | (with_reducible exact ih1 _ _ _ _ _ _ _ _ _ _ _ _ _ _ _ _ _ _)
      | (with_reducible exact clepsydralaw15_alive.mono _)
      | (with_reducible exact route_Choose.mono _ _ _ _ _ _ _ _ _ _ _ _ _ _)
      | (with_reducible exact route_Next.mono _ _ _ _ _ _ _ _ _ _ _ _ _ _)
      | (with_reducible exact LeO.refl _)
      | (with_reducible exact LeO.none _)
      | (with_reducible refine LeO.ite ?_ ?_)
      | (with_reducible refine LeO.bind ?_ (fun _ => ?_))
      | exact ih0 _ _ _ _ _ _ _ _ _ _ _ _ _ _
      | exact ih1 _ _ _ _ _ _ _ _ _ _ _ _ _ _ _ _ _ _
      | exact clepsydralaw15_alive.mono _
      | exact route_Choose.mono _ _ _ _ _ _ _ _ _ _ _ _ _ _
      | exact route_Next.mono _ _ _ _ _ _ _ _ _ _ _ _ _ _
      | exact LeO.none _
      | refine LeO.ite ?_ ?_
      | refine LeO.bind ?_ (fun _ => ?_)
    · intro y0 y1 y2 y3 y4 y5 y6 y7 y8 y9 y10 y11 y12 y13 y14 y15 y16 y17
      unfold clepsydralaw15_RouteOrders.l0
      repeat' first
      | (with_reducible exact ih0 _ _ _ _ _ _ _ _ _ _ _ _ _ _)
      | (with_reducible exact ih1 _ _ _ _ _ _ _ _ _ _ _ _ _ _ _ _ _ _)
      | (with_reducible exact clepsydralaw15_alive.mono _)
      | (with_reducible exact route_Choose.mono _ _ _ _ _ _ _ _ _ _ _ _ _ _)
      | (with_reducible exact route_Next.mono _ _ _ _ _ _ _ _ _ _ _ _ _ _)
      | (with_reducible exact LeO.refl _)
      | (with_reducible exact LeO.none _)
      | (with_reducible refine LeO.ite ?_ ?_)
      | (with_reducible refine LeO.bind ?_ (fun _ => ?_))
      | exact ih0 _ _ _ _ _ _ _ _ _ _ _ _ _ _
      | exact ih1 _ _ _ _ _ _ _ _ _ _ _ _ _ _ _ _ _ _
      | exact clepsydralaw15_alive.mono _
      | exact route_Choose.mono _ _ _ _ _ _ _ _ _ _ _ _ _ _
      | exact route_Next.mono _ _ _ _ _ _ _ _ _ _ _ _ _ _
      | exact LeO.none _
      | refine LeO.ite ?_ ?_
      | refine LeO.bind ?_ (fun _ => ?_)
theorem clepsydralaw15_RouteOrders.mono : ∀ a0 a1 a2 a3 a4 a5 a6 a7 a8 a9 a10 a11 a12 k, LeO (clepsydralaw15_RouteOrders.f k a0 a1 a2 a3 a4 a5 a6 a7 a8 a9 a10 a11 a12) (clepsydralaw15_RouteOrders.f (k + 1) a0 a1 a2 a3 a4 a5 a6 a7 a8 a9 a10 a11 a12) := by
  intro a0 a1 a2 a3 a4 a5 a6 a7 a8 a9 a10 a11 a12 k
  obtain ⟨ih0, ih1⟩ := clepsydralaw15_RouteOrders.mono_l k
  unfold clepsydralaw15_RouteOrders.f
  repeat' first
      | (with_reducible exact ih0 _ _ _ _ _ _ _ _ _ _ _ _ _ _)
      | (with_reducible exact ih1 _ _ _ _ _ _ _ _ _ _ _ _ _ _ _ _ _ _)
      | (with_reducible exact clepsydralaw15_alive.mono _)
      | (with_reducible exact route_Choose.mono _ _ _ _ _ _ _ _ _ _ _ _ _ _)
      | (with_reducible exact route_Next.mono _ _ _ _ _ _ _ _ _ _ _ _ _ _)
      | (with_reducible exact LeO.refl _)
      | (with_reducible exact LeO.none _)
      | (with_reducible refine LeO.ite ?_ ?_)
      | (with_reducible refine LeO.bind ?_ (fun _ => ?_))
      | exact ih0 _ _ _ _ _ _ _ _ _ _ _ _ _ _
      | exact ih1 _ _ _ _ _ _ _ _ _ _ _ _ _ _ _ _ _ _
      | exact clepsydralaw15_alive.mono _
      | exact route_Choose.mono _ _ _ _ _ _ _ _ _ _ _ _ _ _
      | exact route_Next.mono _ _ _ _ _ _ _ _ _ _ _ _ _ _
      | exact LeO.none _
      | refine LeO.ite ?_ ?_
      | refine LeO.bind ?_ (fun _ => ?_)
def clepsydralaw15_RouteOrders.T16 : Bool × List (List Nat × List Nat) := (true, [([], []), ([], []), ([0, 1], [0, 1]), ([], []), ([], []), ([3, 4, 2], [3, 4]), ([2, 5], [2, 5]), ([6, 5], [6]), ([7], [7]), ([7], [7]), ([8, 9, 7], [7, 8, 9]), ([7, 10], [7, 10]), ([11, 7], [11]), ([12], [12]), ([13, 12], [12, 13]), ([12], [12]), ([15, 12], [12, 15]), ([14, 16, 12], [12, 14, 16]), ([12, 17], [12, 17]), ([18, 12], [18]), ([19], [19]), ([20, 19], [19, 20]), ([19], [19]), ([22, 19], [19, 22]), ([21, 23, 19], [19, 21, 23]), ([19, 24], [19, 24]), ([25, 19], [25]), ([26], [26]), ([27, 26], [26, 27]), ([26], [26]), ([29, 26], [26, 29]), ([28, 30, 26], [26, 28, 30]), ([26, 31], [26, 31]), ([32, 26, 0, 1, 2, 3, 4, 5, 6, 7, 8, 9, 10, 11, 12, 13, 14, 15, 16, 17, 18, 19, 20, 21, 22, 23, 24, 25, 26, 27, 28, 29, 30, 31, 32], [32])])
def clepsydralaw15_RouteOrders.B16 : List Nat := [0, 0, 3, 0, 0, 31, 63, 127, 255, 255, 1023, 2047, 4095, 8191, 16383, 8191, 40959, 131071, 262143, 524287, 1048575, 2097151, 1048575, 5242879, 16777215, 33554431, 67108863, 134217727, 268435455, 134217727, 671088639, 2147483647, 4294967295, 8589934591]
theorem clepsydralaw15_RouteOrders.tab16 : rtab .any (opsOf Try.f7 16) = clepsydralaw15_RouteOrders.T16 := by kernel_rfl
theorem clepsydralaw15_RouteOrders.bits16 : waitsOk clepsydralaw15_RouteOrders.T16.2 clepsydralaw15_RouteOrders.B16 = true := by kernel_rfl
set_option maxHeartbeats 8000000 in
set_option maxRecDepth 100000 in
theorem clepsydralaw15_RouteOrders.calls_t (k : Nat) (a0_0 : Int) (a0_1 : Int) (a0_2 : Int) (a0_3 : Int) (a0_4 : Int) (a0_5 : Int) (a0_6 : Int) (a0_7 : Int) (a0_8 : Int) (a0_9 : Int) (a0_10 : Int) (a0_11 : Int) (P1_ : Nat → Prop) (A1 : Option Addr) (c1 : Nat) (l1 : List (S38)) (w : World) (hs1 : Kd.V k38 38 w w.heap.size (fun k_ => P1_ k_) (.slice A1 l1.length c1) l1) (h : clepsydralaw15_RouteOrders.f k a0_0 a0_1 a0_2 a0_3 a0_4 a0_5 a0_6 a0_7 a0_8 a0_9 a0_10 a0_11 l1 = some true) :
    Calls Try.prog 7 #[.agg #[.int .i64 a0_0, .int .i64 a0_1, .int .i64 a0_2, .int .i64 a0_3, .int .i64 a0_4, .int .i64 a0_5, .int .i64 a0_6, .int .i64 a0_7, .int .i64 a0_8, .int .i64 a0_9, .int .i64 a0_10, .int .i64 a0_11], .slice A1 l1.length c1] w fun e w' => e = .returned (.bool true) ∧ Below w.heap.size w w' := by
  have hu23 := Try.underlying23
  have hu38 := Try.underlying38
  have HO1 := Aside0.mk (show Kd.V k38 38 w w.heap.size (fun k_ => (P1_ k_ ∨ w.heap.size ≤ k_)) (.slice A1 l1.length c1) l1 from Kd.V_mono hs1 (fun k_ hk => .inl hk))
  have HB := Aside0.mk (Below.refl w.heap.size w)
  have H : ((clepsydralaw15_alive.f k).bind fun t160 => (if t160 = true then ((clepsydralaw15_odd.f a0_0 a0_1 a0_2 a0_3 a0_4 a0_5 a0_6 a0_7 a0_8 a0_9 a0_10 a0_11).bind fun t161 => (if t161 = true then (clepsydralaw15_RouteOrders.j0 k l1 true a0_0 a0_1 a0_2 a0_3 a0_4 a0_5 a0_6 a0_7 a0_8 a0_9 a0_10 a0_11) else (clepsydralaw15_RouteOrders.j0 k l1 (decide ((l1.length : Int) > 256)) a0_0 a0_1 a0_2 a0_3 a0_4 a0_5 a0_6 a0_7 a0_8 a0_9 a0_10 a0_11))) else (some false))) = some true := h
  clear h
  replace H := Option.bind_eq_some_iff.mp H
  obtain ⟨t160, A30, H⟩ := H
  replace H : (if t160 = true then ((clepsydralaw15_odd.f a0_0 a0_1 a0_2 a0_3 a0_4 a0_5 a0_6 a0_7 a0_8 a0_9 a0_10 a0_11).bind fun t161 => (if t161 = true then (clepsydralaw15_RouteOrders.j0 k l1 true a0_0 a0_1 a0_2 a0_3 a0_4 a0_5 a0_6 a0_7 a0_8 a0_9 a0_10 a0_11) else (clepsydralaw15_RouteOrders.j0 k l1 (decide ((l1.length : Int) > 256)) a0_0 a0_1 a0_2 a0_3 a0_4 a0_5 a0_6 a0_7 a0_8 a0_9 a0_10 a0_11))) else (some false)) = some true := H
  have A3 := Aside0.mk A30
  clear A30
  by_cases c4 : t160 = true
  · subst c4
    have H1 : ((clepsydralaw15_odd.f a0_0 a0_1 a0_2 a0_3 a0_4 a0_5 a0_6 a0_7 a0_8 a0_9 a0_10 a0_11).bind fun t161 => (if t161 = true then (clepsydralaw15_RouteOrders.j0 k l1 true a0_0 a0_1 a0_2 a0_3 a0_4 a0_5 a0_6 a0_7 a0_8 a0_9 a0_10 a0_11) else (clepsydralaw15_RouteOrders.j0 k l1 (decide ((l1.length : Int) > 256)) a0_0 a0_1 a0_2 a0_3 a0_4 a0_5 a0_6 a0_7 a0_8 a0_9 a0_10 a0_11))) = some true := by rw [if_pos rfl] at H; exact H
    clear H
    have H := H1
    clear H1
    have HC5 := Aside0.mk H
    clear H
    go_enter Try.func7, Try.ntmps7
    go_upto_region 3 with (first | ((with_reducible refine gate_dst (N := 2) rfl ?_); (try (refine gate_guard (by rfl) ?_; dsimp only)); refine box_event ?hg (N := 2) ?hd (cs := #[.int .i64 a0_0, .int .i64 a0_1, .int .i64 a0_2, .int .i64 a0_3, .int .i64 a0_4, .int .i64 a0_5, .int .i64 a0_6, .int .i64 a0_7, .int .i64 a0_8, .int .i64 a0_9, .int .i64 a0_10, .int .i64 a0_11]) (t := 23) ?hr ?_; (case hd => rfl); (case hg => rfl); (case hr => first | (go_simp; done) | (go_simp; rfl)); intro gb159 hg w6 hbox hb; have n0_ := Aside0.mk (Kd.V_below (Kd.V_elderB (by (with_reducible repeat (first | apply Kd.V_alloc | apply Kd.V_drewN | apply Kd.V_drew)); exact HO1.out) gb159 (Nat.le_of_eq hg.symm)) hb); have n1_ := Aside0.mk (below_step (by repeat (first | (with_reducible first | exact HB.out | apply below_alloc | apply pw_below_drewN | apply below_drew1) | exact HB.out)) hb); have n2_ := Aside0.mk (hbox); have n3_ := Aside0.mk ((by rw [hg]; exact (below_size (by repeat (first | (with_reducible first | exact HB.out | apply below_alloc | apply pw_below_drewN | apply below_drew1) | exact HB.out))) : w.heap.size ≤ gb159)); have n4_ := Aside0.mk ((by rw [hg]; exact (below_size (by repeat (first | (with_reducible first | exact HB.out | apply below_alloc | apply pw_below_drewN | apply below_drew1) | exact HB.out))) : w.heap.size ≤ gb159)); clear HO1; clear HB; have HO1 := n0_; have HB := n1_; have BK159 := n2_; have GW159 := n3_; have GE159 := n4_; clear n0_ n1_ n2_ n3_ n4_; clear hb hbox hg) | ((with_reducible refine gate_callee (f := 12) rfl ?_); refine goesL_ (some 13) rfl rfl Try.func12 (by kernel_rfl) rfl #[] rfl (by (try simp only [List.map_toArray, List.map_cons, List.map_nil]); first | done | rfl | (simp only [List.length_drop, List.length_take]; rfl)) ?_; (with_reducible refine (clepsydralaw15_alive.calls k  true _ A3.out).mono ?_); rintro e w7 ⟨rfl, hb⟩; refine ⟨_, rfl, ?_⟩; have n0_ := Aside0.mk (Kd.V_below (by (with_reducible repeat (first | apply Kd.V_alloc | apply Kd.V_drewN | apply Kd.V_drew)); exact HO1.out) hb); have n1_ := Aside0.mk (blk_below (g := gb159) (o := .cells #[.int .i64 a0_0, .int .i64 a0_1, .int .i64 a0_2, .int .i64 a0_3, .int .i64 a0_4, .int .i64 a0_5, .int .i64 a0_6, .int .i64 a0_7, .int .i64 a0_8, .int .i64 a0_9, .int .i64 a0_10, .int .i64 a0_11] 23 (0, 0)) (by (with_reducible repeat (first | refine blk_drewN ?_ _ | refine blk_drew ?_ | refine blk_alloc ?_ _)); exact BK159.out) hb); have n2_ := Aside0.mk (below_step (by repeat (first | (with_reducible first | exact HB.out | apply below_alloc | apply pw_below_drewN | apply below_drew1 | refine below_set ?_ GE159.out) | exact HB.out)) hb); clear HO1; clear BK159; clear HB; have HO1 := n0_; have BK159 := n1_; have HB := n2_; clear n0_ n1_ n2_; (try clear hb); (try clear hb2); (try clear hk); (try clear hi)))
    (try simp only [Act.put, List.setIfInBounds_toArray, List.set_cons_zero, List.set_cons_succ])
    go_cut [21] (fun v21 wc => ∃ (kq : Nat) (x21_4 : Bool), v21 = .bool x21_4 ∧ Aside0 (clepsydralaw15_RouteOrders.j0 kq l1 x21_4 a0_0 a0_1 a0_2 a0_3 a0_4 a0_5 a0_6 a0_7 a0_8 a0_9 a0_10 a0_11 = some true) ∧ Aside0 (kq ≤ k) ∧ Aside0 (Kd.V k38 38 wc w.heap.size (fun k_ => (P1_ k_ ∨ w.heap.size ≤ k_) ∧ k_ ≠ gb159) (.slice A1 l1.length c1) l1) ∧ Aside0 (wc.heap[gb159]? = some (.cells #[.int .i64 a0_0, .int .i64 a0_1, .int .i64 a0_2, .int .i64 a0_3, .int .i64 a0_4, .int .i64 a0_5, .int .i64 a0_6, .int .i64 a0_7, .int .i64 a0_8, .int .i64 a0_9, .int .i64 a0_10, .int .i64 a0_11] 23 (0, 0))) ∧ Aside0 (Below w.heap.size w wc))
    case first =>
      have H := HC5.out
      clear HC5
      replace H := Option.bind_eq_some_iff.mp H
      obtain ⟨t161, A80, H⟩ := H
      replace H : (if t161 = true then (clepsydralaw15_RouteOrders.j0 k l1 true a0_0 a0_1 a0_2 a0_3 a0_4 a0_5 a0_6 a0_7 a0_8 a0_9 a0_10 a0_11) else (clepsydralaw15_RouteOrders.j0 k l1 (decide ((l1.length : Int) > 256)) a0_0 a0_1 a0_2 a0_3 a0_4 a0_5 a0_6 a0_7 a0_8 a0_9 a0_10 a0_11)) = some true := H
      have A8 := Aside0.mk A80
      clear A80
      by_cases c9 : t161 = true
      · subst c9
        have H1 : (clepsydralaw15_RouteOrders.j0 k l1 true a0_0 a0_1 a0_2 a0_3 a0_4 a0_5 a0_6 a0_7 a0_8 a0_9 a0_10 a0_11) = some true := by rw [if_pos rfl] at H; exact H
        clear H
        have H := H1
        clear H1
        have H' := Aside0.mk H
        clear H
        have hcz10_0 : w7.cell? ⟨gb159, 0, none⟩ = some (.int .i64 a0_0) := (blk_cell BK159.out 0).trans rfl
        have hcz10_1 : w7.cell? ⟨gb159, 1, none⟩ = some (.int .i64 a0_1) := (blk_cell BK159.out 1).trans rfl
        have hcz10_2 : w7.cell? ⟨gb159, 2, none⟩ = some (.int .i64 a0_2) := (blk_cell BK159.out 2).trans rfl
        have hcz10_3 : w7.cell? ⟨gb159, 3, none⟩ = some (.int .i64 a0_3) := (blk_cell BK159.out 3).trans rfl
        have hcz10_4 : w7.cell? ⟨gb159, 4, none⟩ = some (.int .i64 a0_4) := (blk_cell BK159.out 4).trans rfl
        have hcz10_5 : w7.cell? ⟨gb159, 5, none⟩ = some (.int .i64 a0_5) := (blk_cell BK159.out 5).trans rfl
        have hcz10_6 : w7.cell? ⟨gb159, 6, none⟩ = some (.int .i64 a0_6) := (blk_cell BK159.out 6).trans rfl
        have hcz10_7 : w7.cell? ⟨gb159, 7, none⟩ = some (.int .i64 a0_7) := (blk_cell BK159.out 7).trans rfl
        have hcz10_8 : w7.cell? ⟨gb159, 8, none⟩ = some (.int .i64 a0_8) := (blk_cell BK159.out 8).trans rfl
        have hcz10_9 : w7.cell? ⟨gb159, 9, none⟩ = some (.int .i64 a0_9) := (blk_cell BK159.out 9).trans rfl
        have hcz10_10 : w7.cell? ⟨gb159, 10, none⟩ = some (.int .i64 a0_10) := (blk_cell BK159.out 10).trans rfl
        have hcz10_11 : w7.cell? ⟨gb159, 11, none⟩ = some (.int .i64 a0_11) := (blk_cell BK159.out 11).trans rfl
        have hfz10_0 := blk_frozen BK159.out 0
        have hfz10_1 := blk_frozen BK159.out 1
        have hfz10_2 := blk_frozen BK159.out 2
        have hfz10_3 := blk_frozen BK159.out 3
        have hfz10_4 := blk_frozen BK159.out 4
        have hfz10_5 := blk_frozen BK159.out 5
        have hfz10_6 := blk_frozen BK159.out 6
        have hfz10_7 := blk_frozen BK159.out 7
        have hfz10_8 := blk_frozen BK159.out 8
        have hfz10_9 := blk_frozen BK159.out 9
        have hfz10_10 := blk_frozen BK159.out 10
        have hfz10_11 := blk_frozen BK159.out 11
        go_wp2_with (first | ((with_reducible refine gate_callee (f := 13) rfl ?_); refine goesL_ (some 16) rfl rfl Try.func13 (by kernel_rfl) rfl #[.agg #[.int .i64 a0_0, .int .i64 a0_1, .int .i64 a0_2, .int .i64 a0_3, .int .i64 a0_4, .int .i64 a0_5, .int .i64 a0_6, .int .i64 a0_7, .int .i64 a0_8, .int .i64 a0_9, .int .i64 a0_10, .int .i64 a0_11]] rfl (by (try simp only [List.map_toArray, List.map_cons, List.map_nil]); first | done | rfl | (simp only [List.length_drop, List.length_take]; rfl)) ?_; (with_reducible refine (clepsydralaw15_odd.calls a0_0 a0_1 a0_2 a0_3 a0_4 a0_5 a0_6 a0_7 a0_8 a0_9 a0_10 a0_11 true _ A8.out).mono ?_); rintro e w11 ⟨rfl, hb⟩; refine ⟨_, rfl, ?_⟩; have n0_ := Aside0.mk (Kd.V_below (by (with_reducible repeat (first | apply Kd.V_alloc | apply Kd.V_drewN | apply Kd.V_drew)); exact HO1.out) hb); have n1_ := Aside0.mk (blk_below (g := gb159) (o := .cells #[.int .i64 a0_0, .int .i64 a0_1, .int .i64 a0_2, .int .i64 a0_3, .int .i64 a0_4, .int .i64 a0_5, .int .i64 a0_6, .int .i64 a0_7, .int .i64 a0_8, .int .i64 a0_9, .int .i64 a0_10, .int .i64 a0_11] 23 (0, 0)) (by (with_reducible repeat (first | refine blk_drewN ?_ _ | refine blk_drew ?_ | refine blk_alloc ?_ _)); exact BK159.out) hb); have n2_ := Aside0.mk (below_step (by repeat (first | (with_reducible first | exact HB.out | apply below_alloc | apply pw_below_drewN | apply below_drew1 | refine below_set ?_ GE159.out) | exact HB.out)) hb); clear HO1; clear BK159; clear HB; have HO1 := n0_; have BK159 := n1_; have HB := n2_; clear n0_ n1_ n2_; (try clear hb); (try clear hb2); (try clear hk); (try clear hi)))
        go_meet
        case rel => exact ⟨_, (true), (by first | rfl | (simp; done) | (simp [*]; done)), H', ⟨by first | omega | exact Nat.le_refl _⟩, ⟨by (with_reducible repeat (first | apply Kd.V_alloc | apply Kd.V_drewN | apply Kd.V_drew)); exact HO1.out⟩, ⟨by (with_reducible repeat (first | refine blk_drewN ?_ _ | refine blk_drew ?_ | refine blk_alloc ?_ _)); exact BK159.out⟩, ⟨by repeat (first | (with_reducible first | exact HB.out | apply below_alloc | apply pw_below_drewN | apply below_drew1 | refine below_set ?_ GE159.out) | exact HB.out)⟩⟩
      · replace c9 := Bool.eq_false_iff.mpr c9
        subst c9
        have H1 : (clepsydralaw15_RouteOrders.j0 k l1 (decide ((l1.length : Int) > 256)) a0_0 a0_1 a0_2 a0_3 a0_4 a0_5 a0_6 a0_7 a0_8 a0_9 a0_10 a0_11) = some true := by rw [if_neg (show ¬ (false = true) by decide)] at H; exact H
        clear H
        have H := H1
        clear H1
        have H' := Aside0.mk H
        clear H
        have hcz12_0 : w7.cell? ⟨gb159, 0, none⟩ = some (.int .i64 a0_0) := (blk_cell BK159.out 0).trans rfl
        have hcz12_1 : w7.cell? ⟨gb159, 1, none⟩ = some (.int .i64 a0_1) := (blk_cell BK159.out 1).trans rfl
        have hcz12_2 : w7.cell? ⟨gb159, 2, none⟩ = some (.int .i64 a0_2) := (blk_cell BK159.out 2).trans rfl
        have hcz12_3 : w7.cell? ⟨gb159, 3, none⟩ = some (.int .i64 a0_3) := (blk_cell BK159.out 3).trans rfl
        have hcz12_4 : w7.cell? ⟨gb159, 4, none⟩ = some (.int .i64 a0_4) := (blk_cell BK159.out 4).trans rfl
        have hcz12_5 : w7.cell? ⟨gb159, 5, none⟩ = some (.int .i64 a0_5) := (blk_cell BK159.out 5).trans rfl
        have hcz12_6 : w7.cell? ⟨gb159, 6, none⟩ = some (.int .i64 a0_6) := (blk_cell BK159.out 6).trans rfl
        have hcz12_7 : w7.cell? ⟨gb159, 7, none⟩ = some (.int .i64 a0_7) := (blk_cell BK159.out 7).trans rfl
        have hcz12_8 : w7.cell? ⟨gb159, 8, none⟩ = some (.int .i64 a0_8) := (blk_cell BK159.out 8).trans rfl
        have hcz12_9 : w7.cell? ⟨gb159, 9, none⟩ = some (.int .i64 a0_9) := (blk_cell BK159.out 9).trans rfl
        have hcz12_10 : w7.cell? ⟨gb159, 10, none⟩ = some (.int .i64 a0_10) := (blk_cell BK159.out 10).trans rfl
        have hcz12_11 : w7.cell? ⟨gb159, 11, none⟩ = some (.int .i64 a0_11) := (blk_cell BK159.out 11).trans rfl
        have hfz12_0 := blk_frozen BK159.out 0
        have hfz12_1 := blk_frozen BK159.out 1
        have hfz12_2 := blk_frozen BK159.out 2
        have hfz12_3 := blk_frozen BK159.out 3
        have hfz12_4 := blk_frozen BK159.out 4
        have hfz12_5 := blk_frozen BK159.out 5
        have hfz12_6 := blk_frozen BK159.out 6
        have hfz12_7 := blk_frozen BK159.out 7
        have hfz12_8 := blk_frozen BK159.out 8
        have hfz12_9 := blk_frozen BK159.out 9
        have hfz12_10 := blk_frozen BK159.out 10
        have hfz12_11 := blk_frozen BK159.out 11
        go_wp2_with (first | ((with_reducible refine gate_callee (f := 13) rfl ?_); refine goesL_ (some 16) rfl rfl Try.func13 (by kernel_rfl) rfl #[.agg #[.int .i64 a0_0, .int .i64 a0_1, .int .i64 a0_2, .int .i64 a0_3, .int .i64 a0_4, .int .i64 a0_5, .int .i64 a0_6, .int .i64 a0_7, .int .i64 a0_8, .int .i64 a0_9, .int .i64 a0_10, .int .i64 a0_11]] rfl (by (try simp only [List.map_toArray, List.map_cons, List.map_nil]); first | done | rfl | (simp only [List.length_drop, List.length_take]; rfl)) ?_; (with_reducible refine (clepsydralaw15_odd.calls a0_0 a0_1 a0_2 a0_3 a0_4 a0_5 a0_6 a0_7 a0_8 a0_9 a0_10 a0_11 false _ A8.out).mono ?_); rintro e w13 ⟨rfl, hb⟩; refine ⟨_, rfl, ?_⟩; have n0_ := Aside0.mk (Kd.V_below (by (with_reducible repeat (first | apply Kd.V_alloc | apply Kd.V_drewN | apply Kd.V_drew)); exact HO1.out) hb); have n1_ := Aside0.mk (blk_below (g := gb159) (o := .cells #[.int .i64 a0_0, .int .i64 a0_1, .int .i64 a0_2, .int .i64 a0_3, .int .i64 a0_4, .int .i64 a0_5, .int .i64 a0_6, .int .i64 a0_7, .int .i64 a0_8, .int .i64 a0_9, .int .i64 a0_10, .int .i64 a0_11] 23 (0, 0)) (by (with_reducible repeat (first | refine blk_drewN ?_ _ | refine blk_drew ?_ | refine blk_alloc ?_ _)); exact BK159.out) hb); have n2_ := Aside0.mk (below_step (by repeat (first | (with_reducible first | exact HB.out | apply below_alloc | apply pw_below_drewN | apply below_drew1 | refine below_set ?_ GE159.out) | exact HB.out)) hb); clear HO1; clear BK159; clear HB; have HO1 := n0_; have BK159 := n1_; have HB := n2_; clear n0_ n1_ n2_; (try clear hb); (try clear hb2); (try clear hk); (try clear hi)))
        go_meet
        case rel => exact ⟨_, (decide ((l1.length : Int) > 256)), (by first | rfl | (simp; done) | (simp [*]; done)), H', ⟨by first | omega | exact Nat.le_refl _⟩, ⟨by (with_reducible repeat (first | apply Kd.V_alloc | apply Kd.V_drewN | apply Kd.V_drew)); exact HO1.out⟩, ⟨by (with_reducible repeat (first | refine blk_drewN ?_ _ | refine blk_drew ?_ | refine blk_alloc ?_ _)); exact BK159.out⟩, ⟨by repeat (first | (with_reducible first | exact HB.out | apply below_alloc | apply pw_below_drewN | apply below_drew1 | refine below_set ?_ GE159.out) | exact HB.out)⟩⟩
    case rest =>
      clear HC5
      try clear c1
      try clear p2
      try clear c4
      try clear c7
      try clear c9
      try clear c12
      try clear c13
      try clear hcz10_0
      try clear hcz10_1
      try clear hcz10_10
      try clear hcz10_11
      try clear hcz10_2
      try clear hcz10_3
      try clear hcz10_4
      try clear hcz10_5
      try clear hcz10_6
      try clear hcz10_7
      try clear hcz10_8
      try clear hcz10_9
      try clear hcz12_0
      try clear hcz12_1
      try clear hcz12_10
      try clear hcz12_11
      try clear hcz12_2
      try clear hcz12_3
      try clear hcz12_4
      try clear hcz12_5
      try clear hcz12_6
      try clear hcz12_7
      try clear hcz12_8
      try clear hcz12_9
      try clear hfz10_0
      try clear hfz10_1
      try clear hfz10_10
      try clear hfz10_11
      try clear hfz10_2
      try clear hfz10_3
      try clear hfz10_4
      try clear hfz10_5
      try clear hfz10_6
      try clear hfz10_7
      try clear hfz10_8
      try clear hfz10_9
      try clear hfz12_0
      try clear hfz12_1
      try clear hfz12_10
      try clear hfz12_11
      try clear hfz12_2
      try clear hfz12_3
      try clear hfz12_4
      try clear hfz12_5
      try clear hfz12_6
      try clear hfz12_7
      try clear hfz12_8
      try clear hfz12_9
      obtain ⟨kq, x21_4, rfl, HA, HJ4, HO_1, BK159, HB⟩ := hcut
      cases kq with
      | zero => exact absurd HA.out (by simp [clepsydralaw15_RouteOrders.j0])
      | succ kj4 =>
        have H := HA.out
        clear HA
        simp only [clepsydralaw15_RouteOrders.j0] at H
        by_cases c14 : x21_4 = true
        · subst c14
          have H1 : (some true) = some true := rfl
          clear H
          have H := H1
          clear H1
          first | (obtain rfl := Option.some.inj H) | (have cend := Option.some.inj H)
          go_wp2
          go_ret
          exact ⟨by first | rfl | (simp [errW_none, errW_some] <;> rfl) | (simp [*, errW_none, errW_some] <;> rfl), by repeat (first | (with_reducible first | exact HB.out | apply below_alloc | apply pw_below_drewN | apply below_drew1 | refine below_set ?_ GE159.out) | exact HB.out)⟩
        · replace c14 := Bool.eq_false_iff.mpr c14
          subst c14
          have H1 : (clepsydralaw15_RouteOrders.l0 kj4 l1 ([] : List (S38)) ([] : List Int) ([] : List Int) (l1.length : Int) 0 a0_0 a0_1 a0_2 a0_3 a0_4 a0_5 a0_6 a0_7 a0_8 a0_9 a0_10 a0_11) = some true := by rw [if_neg (show ¬ (false = true) by decide)] at H; exact H
          clear H
          have H := H1
          clear H1
          have H' := Aside0.mk H
          clear H
          go_wp2
          go_loopg [5, 6, 7, 24] kj4 (fun kq v5 v6 v7 v24 w' => ∃ (x5_2 : List (S38)) (x6_2 : List Int) (x7_2 : List Int) (x24_2 : Int), v24 = .int .i64 x24_2 ∧ Aside0 (clepsydralaw15_RouteOrders.l0 kq l1 x5_2 x6_2 x7_2 (l1.length : Int) x24_2 a0_0 a0_1 a0_2 a0_3 a0_4 a0_5 a0_6 a0_7 a0_8 a0_9 a0_10 a0_11 = some true) ∧ Aside0 (kq ≤ kj4) ∧ Aside0 (Kd.V k38 38 w' w.heap.size (fun k_ => (P1_ k_ ∨ w.heap.size ≤ k_) ∧ some k_ ≠ (v5 : Value).ownBlock ∧ some k_ ≠ (v6 : Value).ownBlock ∧ some k_ ≠ (v7 : Value).ownBlock ∧ k_ ≠ gb159) (.slice A1 l1.length c1) l1) ∧ Aside0 (Kd.N k38 38 w' w.heap.size (fun k_ => (P1_ k_ ∨ w.heap.size ≤ k_) ∧ some k_ ≠ (v6 : Value).ownBlock ∧ some k_ ≠ (v7 : Value).ownBlock ∧ k_ ≠ gb159) v5 x5_2) ∧ Aside0 (Kd.R (Kd.int .i64) 3 w' w.heap.size (fun k_ => (w.heap.size ≤ k_) ∧ some k_ ≠ (v7 : Value).ownBlock) v6 x6_2) ∧ Aside0 (Kd.R (Kd.int .i64) 3 w' w.heap.size (fun k_ => (w.heap.size ≤ k_) ∧ some k_ ≠ (v6 : Value).ownBlock) v7 x7_2) ∧ Aside0 (w'.heap[gb159]? = some (.cells #[.int .i64 a0_0, .int .i64 a0_1, .int .i64 a0_2, .int .i64 a0_3, .int .i64 a0_4, .int .i64 a0_5, .int .i64 a0_6, .int .i64 a0_7, .int .i64 a0_8, .int .i64 a0_9, .int .i64 a0_10, .int .i64 a0_11] 23 (0, 0))) ∧ Aside0 (Below w.heap.size w w'))
          case atStart => exact ⟨(([] : List (S38))), (([] : List Int)), (([] : List Int)), (0), (by first | rfl | (simp; done) | (simp [*]; done)), H', ⟨Nat.le_refl _⟩, ⟨by (with_reducible repeat (first | apply Kd.V_alloc | apply Kd.V_drewN | apply Kd.V_drew)); exact Kd.V_mono HO_1.out (fun _ hk => ⟨hk.1, ⟨(by simp [Value.ownBlock]), ⟨(by simp [Value.ownBlock]), ⟨(by simp [Value.ownBlock]), hk.2⟩⟩⟩⟩)⟩, ⟨by first | exact Kd.S_nil _ _ _ _ _ | exact Kd.N_nil _ _ _ _ _ | exact Kd.V_nil _ _ _ _ _ | exact Kd.Q_nil _ _ _ _ _ | exact Kd.R_nil _ _ _ _ _⟩, ⟨by first | exact Kd.R_nil _ _ _ _ _ | exact Kd.N_nil _ _ _ _ _ | exact Kd.V_nil _ _ _ _ _ | exact Kd.Q_nil _ _ _ _ _ | exact Kd.S_nil _ _ _ _ _⟩, ⟨by first | exact Kd.R_nil _ _ _ _ _ | exact Kd.N_nil _ _ _ _ _ | exact Kd.V_nil _ _ _ _ _ | exact Kd.Q_nil _ _ _ _ _ | exact Kd.S_nil _ _ _ _ _⟩, ⟨by (with_reducible repeat (first | refine blk_drewN ?_ _ | refine blk_drew ?_ | refine blk_alloc ?_ _)); exact BK159.out⟩, ⟨by repeat (first | (with_reducible first | exact HB.out | apply below_alloc | apply pw_below_drewN | apply below_drew1 | refine below_set ?_ GE159.out) | exact HB.out)⟩⟩
          case round =>
            clear H'
            try clear c1
            try clear p2
            try clear c4
            try clear c7
            try clear c9
            try clear c12
            try clear c13
            try clear c14
            try clear hcz10_0
            try clear hcz10_1
            try clear hcz10_10
            try clear hcz10_11
            try clear hcz10_2
            try clear hcz10_3
            try clear hcz10_4
            try clear hcz10_5
            try clear hcz10_6
            try clear hcz10_7
            try clear hcz10_8
            try clear hcz10_9
            try clear hcz12_0
            try clear hcz12_1
            try clear hcz12_10
            try clear hcz12_11
            try clear hcz12_2
            try clear hcz12_3
            try clear hcz12_4
            try clear hcz12_5
            try clear hcz12_6
            try clear hcz12_7
            try clear hcz12_8
            try clear hcz12_9
            try clear hfz10_0
            try clear hfz10_1
            try clear hfz10_10
            try clear hfz10_11
            try clear hfz10_2
            try clear hfz10_3
            try clear hfz10_4
            try clear hfz10_5
            try clear hfz10_6
            try clear hfz10_7
            try clear hfz10_8
            try clear hfz10_9
            try clear hfz12_0
            try clear hfz12_1
            try clear hfz12_10
            try clear hfz12_11
            try clear hfz12_2
            try clear hfz12_3
            try clear hfz12_4
            try clear hfz12_5
            try clear hfz12_6
            try clear hfz12_7
            try clear hfz12_8
            try clear hfz12_9
            try clear p2
            obtain ⟨x5_2, x6_2, x7_2, x24_2, rfl, HA, HK2, HO_1, HO_5, HO_6, HO_7, BK159, HB⟩ := hrel
            cases gk with
            | zero => exact absurd HA.out (by simp [clepsydralaw15_RouteOrders.l0])
            | succ k2 =>
              have H := HA.out
              clear HA
              simp only [clepsydralaw15_RouteOrders.l0] at H
              by_cases c15 : x24_2 < (l1.length : Int)
              · rw [if_pos c15] at H
                have c15b0 : decide (x24_2 < (l1.length : Int)) = true := decide_eq_true c15
                clear c15
                obtain ⟨ji16, hji16⟩ : ∃ j_ : Int, (wrap64 ((wrap64 ((l1.length : Int) - 1)) - x24_2)) = j_ := ⟨_, rfl⟩
                replace H : (if 0 ≤ (ji16) then (if (ji16) < (l1.length : Int) then (if x5_2.length < 1172812402961 then (if 0 ≤ x24_2 then (if x24_2 < (l1.length : Int) then (if x6_2.length < 17592186044416 then (if x7_2.length < 17592186044416 then (clepsydralaw15_RouteOrders.l0 k2 l1 (x5_2 ++ [(⟨(rd_T38 l1 (ji16)).f0, (rd_T38 l1 (ji16)).f1, (⟨(rd_T38 l1 (ji16)).f2.f0, (rd_T38 l1 (ji16)).f2.f1⟩ : S33), (rd_T38 l1 (ji16)).f3, (rd_T38 l1 (ji16)).f4, (rd_T38 l1 (ji16)).f5, (rd_T38 l1 (ji16)).f6, (⟨(rd_T38 l1 (ji16)).f7.f0, (rd_T38 l1 (ji16)).f7.f1⟩ : S33), (rd_T38 l1 (ji16)).f8, (⟨(rd_T38 l1 (ji16)).f9.f0, (rd_T38 l1 (ji16)).f9.f1⟩ : S35), (rd_T38 l1 (ji16)).f10⟩ : S38)]) (x6_2 ++ [(rd_T38 l1 x24_2).f4]) (x7_2 ++ [(rd_T38 l1 (ji16)).f4]) (l1.length : Int) (wrap64 (x24_2 + 1)) a0_0 a0_1 a0_2 a0_3 a0_4 a0_5 a0_6 a0_7 a0_8 a0_9 a0_10 a0_11) else (none)) else (none)) else (none)) else (none)) else (none)) else (none)) else (none)) = some true := by first | (rw [hji16] at H; exact H) | (simp only [hji16] at H ⊢; exact H)
                have hji16w : (IntKind.i64.wrap ((wrap64 ((l1.length : Int) - 1)) - x24_2)) = ji16 := (i64_w _).trans hji16
                by_cases c17 : 0 ≤ (ji16)
                · rw [if_pos c17] at H
                  have c17b0 : decide (0 ≤ (ji16)) = true := decide_eq_true c17
                  clear c17
                  by_cases c18 : (ji16) < (l1.length : Int)
                  · rw [if_pos c18] at H
                    have c18b0 : decide ((ji16) < (l1.length : Int)) = true := decide_eq_true c18
                    clear c18
                    by_cases c19 : x5_2.length < 1172812402961
                    · rw [if_pos c19] at H
                      have LMc19 := Aside0.mk c19
                      clear c19
                      obtain ⟨y163, hy163⟩ : ∃ y_ : List (S38), y_ = (x5_2 ++ [(⟨(rd_T38 l1 (ji16)).f0, (rd_T38 l1 (ji16)).f1, (⟨(rd_T38 l1 (ji16)).f2.f0, (rd_T38 l1 (ji16)).f2.f1⟩ : S33), (rd_T38 l1 (ji16)).f3, (rd_T38 l1 (ji16)).f4, (rd_T38 l1 (ji16)).f5, (rd_T38 l1 (ji16)).f6, (⟨(rd_T38 l1 (ji16)).f7.f0, (rd_T38 l1 (ji16)).f7.f1⟩ : S33), (rd_T38 l1 (ji16)).f8, (⟨(rd_T38 l1 (ji16)).f9.f0, (rd_T38 l1 (ji16)).f9.f1⟩ : S35), (rd_T38 l1 (ji16)).f10⟩ : S38)]) := ⟨_, rfl⟩
                      replace H : (if 0 ≤ x24_2 then (if x24_2 < (l1.length : Int) then (if x6_2.length < 17592186044416 then (if x7_2.length < 17592186044416 then (clepsydralaw15_RouteOrders.l0 k2 l1 y163 (x6_2 ++ [(rd_T38 l1 x24_2).f4]) (x7_2 ++ [(rd_T38 l1 (ji16)).f4]) (l1.length : Int) (wrap64 (x24_2 + 1)) a0_0 a0_1 a0_2 a0_3 a0_4 a0_5 a0_6 a0_7 a0_8 a0_9 a0_10 a0_11) else (none)) else (none)) else (none)) else (none)) = some true := by first | (rw [hy163]; with_reducible exact H) | (have H2_ := (Option.bind_some _ _).symm.trans H; rw [hy163]; with_reducible exact H2_) | (have H2_ := (Option.bind_some _ _).symm.trans H; with_reducible exact H2_) | with_reducible exact H | (rw [hy163]; exact H) | exact H
                      have Ny163 := Aside0.mk hy163
                      clear hy163
                      by_cases c20 : 0 ≤ x24_2
                      · rw [if_pos c20] at H
                        have c20b0 : decide (0 ≤ x24_2) = true := decide_eq_true c20
                        clear c20
                        by_cases c21 : x24_2 < (l1.length : Int)
                        · rw [if_pos c21] at H
                          have c21b0 : decide (x24_2 < (l1.length : Int)) = true := decide_eq_true c21
                          clear c21
                          by_cases c22 : x6_2.length < 17592186044416
                          · rw [if_pos c22] at H
                            have LMc22 := Aside0.mk c22
                            clear c22
                            obtain ⟨y167, hy167⟩ : ∃ y_ : List Int, y_ = (x6_2 ++ [(rd_T38 l1 x24_2).f4]) := ⟨_, rfl⟩
                            replace H : (if x7_2.length < 17592186044416 then (clepsydralaw15_RouteOrders.l0 k2 l1 y163 y167 (x7_2 ++ [(rd_T38 l1 (ji16)).f4]) (l1.length : Int) (wrap64 (x24_2 + 1)) a0_0 a0_1 a0_2 a0_3 a0_4 a0_5 a0_6 a0_7 a0_8 a0_9 a0_10 a0_11) else (none)) = some true := by first | (rw [hy167]; with_reducible exact H) | (have H2_ := (Option.bind_some _ _).symm.trans H; rw [hy167]; with_reducible exact H2_) | (have H2_ := (Option.bind_some _ _).symm.trans H; with_reducible exact H2_) | with_reducible exact H | (rw [hy167]; exact H) | exact H
                            have Ny167 := Aside0.mk hy167
                            clear hy167
                            by_cases c23 : x7_2.length < 17592186044416
                            · rw [if_pos c23] at H
                              have LMc23 := Aside0.mk c23
                              clear c23
                              obtain ⟨y171, hy171⟩ : ∃ y_ : List Int, y_ = (x7_2 ++ [(rd_T38 l1 (ji16)).f4]) := ⟨_, rfl⟩
                              replace H : (clepsydralaw15_RouteOrders.l0 k2 l1 y163 y167 y171 (l1.length : Int) (wrap64 (x24_2 + 1)) a0_0 a0_1 a0_2 a0_3 a0_4 a0_5 a0_6 a0_7 a0_8 a0_9 a0_10 a0_11) = some true := by first | (rw [hy171]; with_reducible exact H) | (have H2_ := (Option.bind_some _ _).symm.trans H; rw [hy171]; with_reducible exact H2_) | (have H2_ := (Option.bind_some _ _).symm.trans H; with_reducible exact H2_) | with_reducible exact H | (rw [hy171]; exact H) | exact H
                              have Ny171 := Aside0.mk hy171
                              clear hy171
                              have H' := Aside0.mk H
                              clear H
                              have p162 : 0 ≤ ((ji16) : Int) := of_decide_eq_true (by first | (with_reducible assumption) | assumption)
                              have q162 : (ji16) < (l1.length : Int) := of_decide_eq_true (by first | (with_reducible assumption) | assumption)
                              obtain ⟨ad162, A162_13, c162_13, e162, hx162_0, hx162_1, hx162_2, hx162_3, hx162_4, hx162_5, hx162_6, hx162_7, hx162_8, hx162_9, hx162_10, hx162_11, hx162_12, hx162_13, hl162_13, hi162_13⟩ := at_T38 (Kd.V_reads' HO_1.out).2.2 (ji16) p162 q162
                              cases e162
                              obtain ⟨ce162, hce162, hMe162, hcc162⟩ := Kd.V_get HO_1.out z38 (ji16) p162 (by first | exact q162 | exact of_decide_eq_true (by first | (with_reducible assumption) | assumption) | (have e_ := (Kd.V_reads' HO_1.out).1; omega))
                              obtain ⟨ua162_13, uc162_13, rfl, ul162_13, ge162_13⟩ := k38_openF hMe162
                              have hv162_13 := hcc162 13 _ rfl
                              rw [add_field _ _ 13 (by omega)] at hv162_13
                              replace hv162_13 := Option.some.inj (hv162_13.symm.trans hx162_13)
                              injection hv162_13 with hva_ hvn_ hvc_
                              rw [hva_] at ge162_13
                              rw [hvc_] at ul162_13
                              have HL162_13 := Aside0.mk (show Kd.V k84 84 _ w.heap.size _ _ ((rd_T38 l1 (ji16)).f10) from Kd.V_mk ul162_13 ge162_13)
                              clear hva_ hvn_ hvc_ ge162_13 ul162_13
                              clear hcc162 hce162
                              have HR162_13 := Aside0.mk hi162_13
                              have HC162_13 := Aside0.mk hl162_13
                              clear hi162_13 hl162_13
                              replace p162 := eq_true p162
                              replace q162 := eq_true q162
                              go_wp2_with (first | ((with_reducible refine gate_builtin (b := .append) (xs := #[.tmp 27, .tmp 36]) rfl ?_); (try (refine gate_guard (by rfl) ?_; dsimp only)); at_builtin; refine Kd.N_append k38 (w0 := w) w.heap.size rfl (.tmp 27) (.tmp 36) 31 38 (.agg #[(.int .i64 0), (.int .i64 0), (.int .i64 0), (.int .i64 0), (.int .i64 0), (.int .i64 0), (.bool false), (.bool false), (.int .i64 0), (.int .i64 0), (.int .i64 0), (.int .i64 0), (.int .i64 0), (.slice none 0 0)]) 120 rfl Try.underlying31 info38 rfl (by decide) (by omega) u5 x5_2 (⟨(rd_T38 l1 (ji16)).f0, (rd_T38 l1 (ji16)).f1, (⟨(rd_T38 l1 (ji16)).f2.f0, (rd_T38 l1 (ji16)).f2.f1⟩ : S33), (rd_T38 l1 (ji16)).f3, (rd_T38 l1 (ji16)).f4, (rd_T38 l1 (ji16)).f5, (rd_T38 l1 (ji16)).f6, (⟨(rd_T38 l1 (ji16)).f7.f0, (rd_T38 l1 (ji16)).f7.f1⟩ : S33), (rd_T38 l1 (ji16)).f8, (⟨(rd_T38 l1 (ji16)).f9.f0, (rd_T38 l1 (ji16)).f9.f1⟩ : S35), (rd_T38 l1 (ji16)).f10⟩ : S38) [.int .i64 ((rd_T38 l1 (ji16)).f0), .int .i64 ((rd_T38 l1 (ji16)).f1), .int .i64 ((rd_T38 l1 (ji16)).f2.f0), .int .i64 ((rd_T38 l1 (ji16)).f2.f1), .int .i64 ((rd_T38 l1 (ji16)).f3), .int .i64 ((rd_T38 l1 (ji16)).f4), .bool ((rd_T38 l1 (ji16)).f5), .bool ((rd_T38 l1 (ji16)).f6), .int .i64 ((rd_T38 l1 (ji16)).f7.f0), .int .i64 ((rd_T38 l1 (ji16)).f7.f1), .int .i64 ((rd_T38 l1 (ji16)).f8), .int .i64 ((rd_T38 l1 (ji16)).f9.f0), .int .i64 ((rd_T38 l1 (ji16)).f9.f1), .slice A162_13 ((rd_T38 l1 (ji16)).f10).length c162_13] (fun k_ => (P1_ k_ ∨ w.heap.size ≤ k_) ∧ some k_ ≠ (u6 : Value).ownBlock ∧ some k_ ≠ (u7 : Value).ownBlock ∧ k_ ≠ gb159) (fun k_ => ((fun k_ => (P1_ k_ ∨ w.heap.size ≤ k_) ∧ some k_ ≠ (u6 : Value).ownBlock ∧ some k_ ≠ (u7 : Value).ownBlock ∧ k_ ≠ gb159)) k_ ∧ some k_ ≠ (u5 : Value).ownBlock) rfl rfl ?aP (fun _ hk => hk) ?aF ?aO ?aB ?aS ?aL ?_; (case aP => exact (k38_mkF _ _ (⟨(rd_T38 l1 (ji16)).f0, (rd_T38 l1 (ji16)).f1, (⟨(rd_T38 l1 (ji16)).f2.f0, (rd_T38 l1 (ji16)).f2.f1⟩ : S33), (rd_T38 l1 (ji16)).f3, (rd_T38 l1 (ji16)).f4, (rd_T38 l1 (ji16)).f5, (rd_T38 l1 (ji16)).f6, (⟨(rd_T38 l1 (ji16)).f7.f0, (rd_T38 l1 (ji16)).f7.f1⟩ : S33), (rd_T38 l1 (ji16)).f8, (⟨(rd_T38 l1 (ji16)).f9.f0, (rd_T38 l1 (ji16)).f9.f1⟩ : S35), (rd_T38 l1 (ji16)).f10⟩ : S38) (Kd.V_reads' (Kd.V_mono (ok' := (fun k_ => ((fun k_ => (P1_ k_ ∨ w.heap.size ≤ k_) ∧ some k_ ≠ (u6 : Value).ownBlock ∧ some k_ ≠ (u7 : Value).ownBlock ∧ k_ ≠ gb159)) k_ ∧ some k_ ≠ (u5 : Value).ownBlock)) (HL162_13.out) (fun k_ hk => ⟨⟨hk.1, ⟨hk.2.2.1, ⟨hk.2.2.2.1, hk.2.2.2.2⟩⟩⟩, hk.2.1⟩))).2.1 (Kd.V_F (Kd.V_mono (ok' := (fun k_ => ((fun k_ => (P1_ k_ ∨ w.heap.size ≤ k_) ∧ some k_ ≠ (u6 : Value).ownBlock ∧ some k_ ≠ (u7 : Value).ownBlock ∧ k_ ≠ gb159)) k_ ∧ some k_ ≠ (u5 : Value).ownBlock)) (HL162_13.out) (fun k_ hk => ⟨⟨hk.1, ⟨hk.2.2.1, ⟨hk.2.2.2.1, hk.2.2.2.2⟩⟩⟩, hk.2.1⟩))))); (case aB => exact (by repeat (first | (with_reducible first | exact HB.out | apply below_alloc | apply pw_below_drewN | apply below_drew1 | refine below_set ?_ GE159.out) | exact HB.out))); (case aF => exact (fun k_ hk => ⟨(.inr (Nat.le_trans (below_size (by repeat (first | (with_reducible first | exact HB.out | apply below_alloc | apply pw_below_drewN | apply below_drew1 | refine below_set ?_ GE159.out) | exact HB.out))) hk)), Kd.fresh' (Kd.R_lt (by (with_reducible repeat (first | apply Kd.R_alloc | apply Kd.R_drewN | apply Kd.R_drew)); exact HO_6.out)) k_ hk, Kd.fresh' (Kd.R_lt (by (with_reducible repeat (first | apply Kd.R_alloc | apply Kd.R_drewN | apply Kd.R_drew)); exact HO_7.out)) k_ hk, Kd.freshB (g := gb159) (o := .cells #[.int .i64 a0_0, .int .i64 a0_1, .int .i64 a0_2, .int .i64 a0_3, .int .i64 a0_4, .int .i64 a0_5, .int .i64 a0_6, .int .i64 a0_7, .int .i64 a0_8, .int .i64 a0_9, .int .i64 a0_10, .int .i64 a0_11] 23 (0, 0)) (by (with_reducible repeat (first | refine blk_drewN ?_ _ | refine blk_drew ?_ | refine blk_alloc ?_ _)); exact BK159.out) k_ hk⟩)); (case aO => exact (by (with_reducible repeat (first | apply Kd.N_alloc | apply Kd.N_drewN | apply Kd.N_drew)); exact HO_5.out)); (case aS => exact (below_size (by repeat (first | (with_reducible first | exact HB.out | apply below_alloc | apply pw_below_drewN | apply below_drew1 | refine below_set ?_ GE159.out) | exact HB.out)))); (case aL => have := LMc19.out; omega); intro v164 w24 ho hb hg hat; rw [← Ny163.out] at ho; have n0_ := Aside0.mk (Kd.V_afterv (ok := (fun k_ => (P1_ k_ ∨ w.heap.size ≤ k_) ∧ some k_ ≠ (u6 : Value).ownBlock ∧ some k_ ≠ (u7 : Value).ownBlock ∧ k_ ≠ gb159)) (by (with_reducible repeat (first | apply Kd.V_alloc | apply Kd.V_drewN | apply Kd.V_drew)); exact Kd.V_mono HO_1.out (fun _ hk => ⟨⟨hk.1, ⟨hk.2.2.1, ⟨hk.2.2.2.1, hk.2.2.2.2⟩⟩⟩, hk.2.1⟩)) hg hat); have n1_ := Aside0.mk (Kd.R_over' (by (with_reducible repeat (first | apply Kd.R_alloc | apply Kd.R_drewN | apply Kd.R_drew)); exact HO_6.out) (Kd.N_typed (by (with_reducible repeat (first | apply Kd.N_alloc | apply Kd.N_drewN | apply Kd.N_drew)); exact HO_5.out)) (by decide) hg); have n2_ := Aside0.mk (Kd.R_over' (by (with_reducible repeat (first | apply Kd.R_alloc | apply Kd.R_drewN | apply Kd.R_drew)); exact HO_7.out) (Kd.N_typed (by (with_reducible repeat (first | apply Kd.N_alloc | apply Kd.N_drewN | apply Kd.N_drew)); exact HO_5.out)) (by decide) hg); have n3_ := Aside0.mk (blk_grown (g := gb159) (o := .cells #[.int .i64 a0_0, .int .i64 a0_1, .int .i64 a0_2, .int .i64 a0_3, .int .i64 a0_4, .int .i64 a0_5, .int .i64 a0_6, .int .i64 a0_7, .int .i64 a0_8, .int .i64 a0_9, .int .i64 a0_10, .int .i64 a0_11] 23 (0, 0)) (by (with_reducible repeat (first | refine blk_drewN ?_ _ | refine blk_drew ?_ | refine blk_alloc ?_ _)); exact BK159.out) hg (Kd.N_ne HO_5.out BK159.out (by decide))); have n4_ := Aside0.mk (Kd.V_afterv (ok := (fun k_ => (P1_ k_ ∨ w.heap.size ≤ k_) ∧ some k_ ≠ (u6 : Value).ownBlock ∧ some k_ ≠ (u7 : Value).ownBlock ∧ k_ ≠ gb159)) (by (with_reducible repeat (first | apply Kd.V_alloc | apply Kd.V_drewN | apply Kd.V_drew)); exact Kd.V_mono HL162_13.out (fun _ hk => ⟨⟨hk.1, ⟨hk.2.2.1, ⟨hk.2.2.2.1, hk.2.2.2.2⟩⟩⟩, hk.2.1⟩)) hg hat); have n5_ := Aside0.mk (hb); have n6_ := Aside0.mk (ho); clear HO_1; clear HO_6; clear HO_7; clear BK159; clear HL162_13; clear HB; clear HO_5; have HO_1 := n0_; have HO_6 := n1_; have HO_7 := n2_; have BK159 := n3_; have HL162_13 := n4_; have HB := n5_; have HO165 := n6_; clear n0_ n1_ n2_ n3_ n4_ n5_ n6_; clear ho hb hg hat; have p166 : 0 ≤ (x24_2 : Int) := of_decide_eq_true (by first | (with_reducible assumption) | assumption); have q166 : x24_2 < (l1.length : Int) := of_decide_eq_true (by first | (with_reducible assumption) | assumption); obtain ⟨ad166, A166_13, c166_13, e166, hx166_0, hx166_1, hx166_2, hx166_3, hx166_4, hx166_5, hx166_6, hx166_7, hx166_8, hx166_9, hx166_10, hx166_11, hx166_12, hx166_13, hl166_13, hi166_13⟩ := at_T38 (Kd.V_reads' HO_1.out).2.2 x24_2 p166 q166; obtain rfl : ad162 = ad166 := (by injection e166); obtain ⟨ce166, hce166, hMe166, hcc166⟩ := Kd.V_get HO_1.out z38 x24_2 p166 (by first | exact q166 | exact of_decide_eq_true (by first | (with_reducible assumption) | assumption) | (have e_ := (Kd.V_reads' HO_1.out).1; omega)); obtain ⟨ua166_13, uc166_13, rfl, ul166_13, ge166_13⟩ := k38_openF hMe166; have hv166_13 := hcc166 13 _ rfl; rw [add_field _ _ 13 (by omega)] at hv166_13; replace hv166_13 := Option.some.inj (hv166_13.symm.trans hx166_13); injection hv166_13 with hva_ hvn_ hvc_; rw [hva_] at ge166_13; rw [hvc_] at ul166_13; have HL166_13 := Aside0.mk (show Kd.V k84 84 _ w.heap.size _ _ ((rd_T38 l1 x24_2).f10) from Kd.V_mk ul166_13 ge166_13); clear hva_ hvn_ hvc_ ge166_13 ul166_13; clear hcc166 hce166; have HR166_13 := Aside0.mk hi166_13; have HC166_13 := Aside0.mk hl166_13; clear hi166_13 hl166_13; replace p166 := eq_true p166; replace q166 := eq_true q166) | ((with_reducible refine gate_builtin (b := .append) (xs := #[.tmp 38, .tmp 44]) rfl ?_); (try (refine gate_guard (by rfl) ?_; dsimp only)); at_builtin; refine Kd.R_append (Kd.int .i64) (w0 := w) w.heap.size rfl (.tmp 38) (.tmp 44) 24 3 (.int .i64 0) 8 rfl Try.underlying24 info3 rfl (by decide) (by omega) u6 x6_2 ((rd_T38 l1 x24_2).f4) [.int .i64 ((rd_T38 l1 x24_2).f4)] (fun k_ => (w.heap.size ≤ k_) ∧ some k_ ≠ (u7 : Value).ownBlock) (fun _ => False) rfl rfl ?aP (fun _ hk => hk.elim) ?aF ?aO ?aB ?aS ?aL ?_; (case aP => exact rfl); (case aB => exact (by repeat (first | (with_reducible first | exact HB.out | apply below_alloc | apply pw_below_drewN | apply below_drew1 | refine below_set ?_ GE159.out) | exact HB.out))); (case aF => exact (fun k_ hk => ⟨(Nat.le_trans (below_size (by repeat (first | (with_reducible first | exact HB.out | apply below_alloc | apply pw_below_drewN | apply below_drew1 | refine below_set ?_ GE159.out) | exact HB.out))) hk), Kd.fresh' (Kd.R_lt (by (with_reducible repeat (first | apply Kd.R_alloc | apply Kd.R_drewN | apply Kd.R_drew)); exact HO_7.out)) k_ hk⟩)); (case aO => exact (by (with_reducible repeat (first | apply Kd.R_alloc | apply Kd.R_drewN | apply Kd.R_drew)); exact HO_6.out)); (case aS => exact (below_size (by repeat (first | (with_reducible first | exact HB.out | apply below_alloc | apply pw_below_drewN | apply below_drew1 | refine below_set ?_ GE159.out) | exact HB.out)))); (case aL => have := LMc22.out; omega); intro v168 w25 ho hb hg hat; rw [← Ny167.out] at ho; have n0_ := Aside0.mk (Kd.V_afterv (ok := (fun k_ => (P1_ k_ ∨ w.heap.size ≤ k_) ∧ some k_ ≠ (u7 : Value).ownBlock ∧ some k_ ≠ (v164 : Value).ownBlock ∧ k_ ≠ gb159)) (by (with_reducible repeat (first | apply Kd.V_alloc | apply Kd.V_drewN | apply Kd.V_drew)); exact Kd.V_mono HO_1.out (fun _ hk => ⟨⟨hk.1.1, ⟨hk.1.2.2.1, ⟨hk.2, hk.1.2.2.2⟩⟩⟩, hk.1.2.1⟩)) hg hat); have n1_ := Aside0.mk (Kd.R_after (ok := (fun k_ => (w.heap.size ≤ k_))) (by (with_reducible repeat (first | apply Kd.R_alloc | apply Kd.R_drewN | apply Kd.R_drew)); exact HO_7.out) hg hat); have n2_ := Aside0.mk (blk_grown (g := gb159) (o := .cells #[.int .i64 a0_0, .int .i64 a0_1, .int .i64 a0_2, .int .i64 a0_3, .int .i64 a0_4, .int .i64 a0_5, .int .i64 a0_6, .int .i64 a0_7, .int .i64 a0_8, .int .i64 a0_9, .int .i64 a0_10, .int .i64 a0_11] 23 (0, 0)) (by (with_reducible repeat (first | refine blk_drewN ?_ _ | refine blk_drew ?_ | refine blk_alloc ?_ _)); exact BK159.out) hg (Kd.R_ne HO_6.out BK159.out (by decide))); have n3_ := Aside0.mk (Kd.V_afterv (ok := (fun k_ => (P1_ k_ ∨ w.heap.size ≤ k_) ∧ some k_ ≠ (u7 : Value).ownBlock ∧ some k_ ≠ (v164 : Value).ownBlock ∧ k_ ≠ gb159)) (by (with_reducible repeat (first | apply Kd.V_alloc | apply Kd.V_drewN | apply Kd.V_drew)); exact Kd.V_mono HL162_13.out (fun _ hk => ⟨⟨hk.1.1, ⟨hk.1.2.2.1, ⟨hk.2, hk.1.2.2.2⟩⟩⟩, hk.1.2.1⟩)) hg hat); have n4_ := Aside0.mk (Kd.N_afterv (ok := (fun k_ => (P1_ k_ ∨ w.heap.size ≤ k_) ∧ some k_ ≠ (u7 : Value).ownBlock ∧ k_ ≠ gb159)) (by (with_reducible repeat (first | apply Kd.N_alloc | apply Kd.N_drewN | apply Kd.N_drew)); exact Kd.N_mono HO165.out (fun _ hk => ⟨⟨hk.1, ⟨hk.2.2.1, hk.2.2.2⟩⟩, hk.2.1⟩)) hg hat); have n5_ := Aside0.mk (Kd.V_afterv (ok := (fun k_ => (P1_ k_ ∨ w.heap.size ≤ k_) ∧ some k_ ≠ (u7 : Value).ownBlock ∧ some k_ ≠ (v164 : Value).ownBlock ∧ k_ ≠ gb159)) (by (with_reducible repeat (first | apply Kd.V_alloc | apply Kd.V_drewN | apply Kd.V_drew)); exact Kd.V_mono HL166_13.out (fun _ hk => ⟨⟨hk.1.1, ⟨hk.1.2.2.1, ⟨hk.2, hk.1.2.2.2⟩⟩⟩, hk.1.2.1⟩)) hg hat); have n6_ := Aside0.mk (hb); have n7_ := Aside0.mk (ho); clear HO_1; clear HO_7; clear BK159; clear HL162_13; clear HO165; clear HL166_13; clear HB; clear HO_6; have HO_1 := n0_; have HO_7 := n1_; have BK159 := n2_; have HL162_13 := n3_; have HO165 := n4_; have HL166_13 := n5_; have HB := n6_; have HO169 := n7_; clear n0_ n1_ n2_ n3_ n4_ n5_ n6_ n7_; clear ho hb hg hat; have p170 : 0 ≤ ((ji16) : Int) := of_decide_eq_true (by first | (with_reducible assumption) | assumption); have q170 : (ji16) < (l1.length : Int) := of_decide_eq_true (by first | (with_reducible assumption) | assumption); obtain ⟨ad170, A170_13, c170_13, e170, hx170_0, hx170_1, hx170_2, hx170_3, hx170_4, hx170_5, hx170_6, hx170_7, hx170_8, hx170_9, hx170_10, hx170_11, hx170_12, hx170_13, hl170_13, hi170_13⟩ := at_T38 (Kd.V_reads' HO_1.out).2.2 (ji16) p170 q170; obtain rfl : ad162 = ad170 := (by injection e170); obtain ⟨ce170, hce170, hMe170, hcc170⟩ := Kd.V_get HO_1.out z38 (ji16) p170 (by first | exact q170 | exact of_decide_eq_true (by first | (with_reducible assumption) | assumption) | (have e_ := (Kd.V_reads' HO_1.out).1; omega)); obtain ⟨ua170_13, uc170_13, rfl, ul170_13, ge170_13⟩ := k38_openF hMe170; have hv170_13 := hcc170 13 _ rfl; rw [add_field _ _ 13 (by omega)] at hv170_13; replace hv170_13 := Option.some.inj (hv170_13.symm.trans hx170_13); injection hv170_13 with hva_ hvn_ hvc_; rw [hva_] at ge170_13; rw [hvc_] at ul170_13; have HL170_13 := Aside0.mk (show Kd.V k84 84 _ w.heap.size _ _ ((rd_T38 l1 (ji16)).f10) from Kd.V_mk ul170_13 ge170_13); clear hva_ hvn_ hvc_ ge170_13 ul170_13; clear hcc170 hce170; have HR170_13 := Aside0.mk hi170_13; have HC170_13 := Aside0.mk hl170_13; clear hi170_13 hl170_13; replace p170 := eq_true p170; replace q170 := eq_true q170) | ((with_reducible refine gate_builtin (b := .append) (xs := #[.tmp 46, .tmp 56]) rfl ?_); (try (refine gate_guard (by rfl) ?_; dsimp only)); at_builtin; refine Kd.R_append (Kd.int .i64) (w0 := w) w.heap.size rfl (.tmp 46) (.tmp 56) 24 3 (.int .i64 0) 8 rfl Try.underlying24 info3 rfl (by decide) (by omega) u7 x7_2 ((rd_T38 l1 (ji16)).f4) [.int .i64 ((rd_T38 l1 (ji16)).f4)] (fun k_ => (w.heap.size ≤ k_) ∧ some k_ ≠ (v168 : Value).ownBlock) (fun _ => False) rfl rfl ?aP (fun _ hk => hk.elim) ?aF ?aO ?aB ?aS ?aL ?_; (case aP => exact rfl); (case aB => exact (by repeat (first | (with_reducible first | exact HB.out | apply below_alloc | apply pw_below_drewN | apply below_drew1 | refine below_set ?_ GE159.out) | exact HB.out))); (case aF => exact (fun k_ hk => ⟨(Nat.le_trans (below_size (by repeat (first | (with_reducible first | exact HB.out | apply below_alloc | apply pw_below_drewN | apply below_drew1 | refine below_set ?_ GE159.out) | exact HB.out))) hk), Kd.fresh' (Kd.R_lt (by (with_reducible repeat (first | apply Kd.R_alloc | apply Kd.R_drewN | apply Kd.R_drew)); exact HO169.out)) k_ hk⟩)); (case aO => exact (by (with_reducible repeat (first | apply Kd.R_alloc | apply Kd.R_drewN | apply Kd.R_drew)); exact HO_7.out)); (case aS => exact (below_size (by repeat (first | (with_reducible first | exact HB.out | apply below_alloc | apply pw_below_drewN | apply below_drew1 | refine below_set ?_ GE159.out) | exact HB.out)))); (case aL => have := LMc23.out; omega); intro v172 w26 ho hb hg hat; rw [← Ny171.out] at ho; have n0_ := Aside0.mk (Kd.V_afterv (ok := (fun k_ => (P1_ k_ ∨ w.heap.size ≤ k_) ∧ some k_ ≠ (v164 : Value).ownBlock ∧ some k_ ≠ (v168 : Value).ownBlock ∧ k_ ≠ gb159)) (by (with_reducible repeat (first | apply Kd.V_alloc | apply Kd.V_drewN | apply Kd.V_drew)); exact Kd.V_mono HO_1.out (fun _ hk => ⟨⟨hk.1.1, ⟨hk.1.2.2.1, ⟨hk.2, hk.1.2.2.2⟩⟩⟩, hk.1.2.1⟩)) hg hat); have n1_ := Aside0.mk (blk_grown (g := gb159) (o := .cells #[.int .i64 a0_0, .int .i64 a0_1, .int .i64 a0_2, .int .i64 a0_3, .int .i64 a0_4, .int .i64 a0_5, .int .i64 a0_6, .int .i64 a0_7, .int .i64 a0_8, .int .i64 a0_9, .int .i64 a0_10, .int .i64 a0_11] 23 (0, 0)) (by (with_reducible repeat (first | refine blk_drewN ?_ _ | refine blk_drew ?_ | refine blk_alloc ?_ _)); exact BK159.out) hg (Kd.R_ne HO_7.out BK159.out (by decide))); have n2_ := Aside0.mk (Kd.V_afterv (ok := (fun k_ => (P1_ k_ ∨ w.heap.size ≤ k_) ∧ some k_ ≠ (v164 : Value).ownBlock ∧ some k_ ≠ (v168 : Value).ownBlock ∧ k_ ≠ gb159)) (by (with_reducible repeat (first | apply Kd.V_alloc | apply Kd.V_drewN | apply Kd.V_drew)); exact Kd.V_mono HL162_13.out (fun _ hk => ⟨⟨hk.1.1, ⟨hk.1.2.2.1, ⟨hk.2, hk.1.2.2.2⟩⟩⟩, hk.1.2.1⟩)) hg hat); have n3_ := Aside0.mk (Kd.N_afterv (ok := (fun k_ => (P1_ k_ ∨ w.heap.size ≤ k_) ∧ some k_ ≠ (v168 : Value).ownBlock ∧ k_ ≠ gb159)) (by (with_reducible repeat (first | apply Kd.N_alloc | apply Kd.N_drewN | apply Kd.N_drew)); exact Kd.N_mono HO165.out (fun _ hk => ⟨⟨hk.1.1, ⟨hk.2, hk.1.2.2⟩⟩, hk.1.2.1⟩)) hg hat); have n4_ := Aside0.mk (Kd.V_afterv (ok := (fun k_ => (P1_ k_ ∨ w.heap.size ≤ k_) ∧ some k_ ≠ (v164 : Value).ownBlock ∧ some k_ ≠ (v168 : Value).ownBlock ∧ k_ ≠ gb159)) (by (with_reducible repeat (first | apply Kd.V_alloc | apply Kd.V_drewN | apply Kd.V_drew)); exact Kd.V_mono HL166_13.out (fun _ hk => ⟨⟨hk.1.1, ⟨hk.1.2.2.1, ⟨hk.2, hk.1.2.2.2⟩⟩⟩, hk.1.2.1⟩)) hg hat); have n5_ := Aside0.mk (Kd.R_after (ok := (fun k_ => (w.heap.size ≤ k_))) (by (with_reducible repeat (first | apply Kd.R_alloc | apply Kd.R_drewN | apply Kd.R_drew)); exact HO169.out) hg hat); have n6_ := Aside0.mk (Kd.V_afterv (ok := (fun k_ => (P1_ k_ ∨ w.heap.size ≤ k_) ∧ some k_ ≠ (v164 : Value).ownBlock ∧ some k_ ≠ (v168 : Value).ownBlock ∧ k_ ≠ gb159)) (by (with_reducible repeat (first | apply Kd.V_alloc | apply Kd.V_drewN | apply Kd.V_drew)); exact Kd.V_mono HL170_13.out (fun _ hk => ⟨⟨hk.1.1, ⟨hk.1.2.2.1, ⟨hk.2, hk.1.2.2.2⟩⟩⟩, hk.1.2.1⟩)) hg hat); have n7_ := Aside0.mk (hb); have n8_ := Aside0.mk (ho); clear HO_1; clear BK159; clear HL162_13; clear HO165; clear HL166_13; clear HO169; clear HL170_13; clear HB; clear HO_7; have HO_1 := n0_; have BK159 := n1_; have HL162_13 := n2_; have HO165 := n3_; have HL166_13 := n4_; have HO169 := n5_; have HL170_13 := n6_; have HB := n7_; have HO173 := n8_; clear n0_ n1_ n2_ n3_ n4_ n5_ n6_ n7_ n8_; clear ho hb hg hat))
                              go_roundg k2
                              case measure => have := HJ4.out; have := HK2.out; omega
                              case rel => exact ⟨(y163), (y167), (y171), (wrap64 (x24_2 + 1)), (by first | rfl | (simp; done) | (simp [*]; done)), H', ⟨by have := HJ4.out; have := HK2.out; omega⟩, ⟨by (with_reducible repeat (first | apply Kd.V_alloc | apply Kd.V_drewN | apply Kd.V_drew)); exact Kd.V_mono HO_1.out (fun _ hk => ⟨hk.1.1, ⟨hk.1.2.1, ⟨hk.1.2.2.1, ⟨hk.2, hk.1.2.2.2⟩⟩⟩⟩)⟩, ⟨by (with_reducible repeat (first | apply Kd.N_alloc | apply Kd.N_drewN | apply Kd.N_drew)); exact Kd.N_mono HO165.out (fun _ hk => ⟨hk.1.1, ⟨hk.1.2.1, ⟨hk.2, hk.1.2.2⟩⟩⟩)⟩, ⟨by (with_reducible repeat (first | apply Kd.R_alloc | apply Kd.R_drewN | apply Kd.R_drew)); exact HO169.out⟩, ⟨by (with_reducible repeat (first | apply Kd.R_alloc | apply Kd.R_drewN | apply Kd.R_drew)); exact HO173.out⟩, ⟨by (with_reducible repeat (first | refine blk_drewN ?_ _ | refine blk_drew ?_ | refine blk_alloc ?_ _)); exact BK159.out⟩, ⟨by repeat (first | (with_reducible first | exact HB.out | apply below_alloc | apply pw_below_drewN | apply below_drew1 | refine below_set ?_ GE159.out) | exact HB.out)⟩⟩
                            · rw [if_neg c23] at H
                              exact absurd H (by simp)
                          · rw [if_neg c22] at H
                            exact absurd H (by simp)
                        · rw [if_neg c21] at H
                          exact absurd H (by simp)
                      · rw [if_neg c20] at H
                        exact absurd H (by simp)
                    · rw [if_neg c19] at H
                      exact absurd H (by simp)
                  · rw [if_neg c18] at H
                    exact absurd H (by simp)
                · rw [if_neg c17] at H
                  exact absurd H (by simp)
              · rw [if_neg c15] at H
                have c15b0 : decide (x24_2 < (l1.length : Int)) = false := decide_eq_false c15
                clear c15
                replace H := Option.bind_eq_some_iff.mp H
                obtain ⟨⟨t174, t175, t176, t177, t178, t179, t180, t181, t182, t183, t184, t185, t186, t187, t190⟩, A270, H⟩ := H
                replace H : ((route_Choose.f k2 a0_0 a0_1 a0_2 a0_3 a0_4 a0_5 a0_6 a0_7 a0_8 a0_9 a0_10 a0_11 x5_2).bind fun bt192 => ((route_Next.f k2 a0_0 a0_1 a0_2 a0_3 a0_4 a0_5 a0_6 a0_7 a0_8 a0_9 a0_10 a0_11 x6_2).bind fun t210 => ((route_Next.f k2 a0_0 a0_1 a0_2 a0_3 a0_4 a0_5 a0_6 a0_7 a0_8 a0_9 a0_10 a0_11 x7_2).bind fun t211 => (if t210 = t211 then (if (t190 == bt192.2.2.2.2.2.2.2.2.2.2.2.2.2.2) = true then (if t179 = bt192.2.2.2.2.2.1 then (if t178 = bt192.2.2.2.2.1 then (some (t175 == bt192.2.1)) else (some false)) else (some false)) else (some false)) else (some false))))) = some true := H
                have A27 := Aside0.mk A270
                clear A270
                replace H := Option.bind_eq_some_iff.mp H
                obtain ⟨⟨t192, t193, t194, t195, t196, t197, t198, t199, t200, t201, t202, t203, t204, t205, t208⟩, A280, H⟩ := H
                replace H : ((route_Next.f k2 a0_0 a0_1 a0_2 a0_3 a0_4 a0_5 a0_6 a0_7 a0_8 a0_9 a0_10 a0_11 x6_2).bind fun t210 => ((route_Next.f k2 a0_0 a0_1 a0_2 a0_3 a0_4 a0_5 a0_6 a0_7 a0_8 a0_9 a0_10 a0_11 x7_2).bind fun t211 => (if t210 = t211 then (if (t190 == t208) = true then (if t179 = t197 then (if t178 = t196 then (some (t175 == t193)) else (some false)) else (some false)) else (some false)) else (some false)))) = some true := H
                have A28 := Aside0.mk A280
                clear A280
                replace H := Option.bind_eq_some_iff.mp H
                obtain ⟨t210, A290, H⟩ := H
                replace H : ((route_Next.f k2 a0_0 a0_1 a0_2 a0_3 a0_4 a0_5 a0_6 a0_7 a0_8 a0_9 a0_10 a0_11 x7_2).bind fun t211 => (if t210 = t211 then (if (t190 == t208) = true then (if t179 = t197 then (if t178 = t196 then (some (t175 == t193)) else (some false)) else (some false)) else (some false)) else (some false))) = some true := H
                have A29 := Aside0.mk A290
                clear A290
                replace H := Option.bind_eq_some_iff.mp H
                obtain ⟨t211, A300, H⟩ := H
                replace H : (if t210 = t211 then (if (t190 == t208) = true then (if t179 = t197 then (if t178 = t196 then (some (t175 == t193)) else (some false)) else (some false)) else (some false)) else (some false)) = some true := H
                have A30 := Aside0.mk A300
                clear A300
                by_cases c31 : t210 = t211
                · rw [if_pos c31] at H
                  have c31b0 : (t210 == t211) = true := beq_iff_eq.mpr c31
                  have c31b1 : (t210 != t211) = false := bne_eq_false_iff_eq.mpr c31
                  clear c31
                  by_cases c32 : (t190 == t208) = true
                  · rw [if_pos c32] at H
                    have c32b0 : (t190 == t208) = true := c32
                    (try (have c32b1 : decide (t190 = t208) = true := by simpa using c32))
                    (try (have c32b2 : (t190 == t208) = true := by simpa using c32))
                    clear c32
                    by_cases c33 : t179 = t197
                    · rw [if_pos c33] at H
                      have c33b0 : (t179 == t197) = true := beq_iff_eq.mpr c33
                      have c33b1 : (t179 != t197) = false := bne_eq_false_iff_eq.mpr c33
                      clear c33
                      by_cases c34 : t178 = t196
                      · rw [if_pos c34] at H
                        have c34b0 : (t178 == t196) = true := beq_iff_eq.mpr c34
                        have c34b1 : (t178 != t196) = false := bne_eq_false_iff_eq.mpr c34
                        clear c34
                        first | (obtain rfl := Option.some.inj H) | (have cend := Option.some.inj H)
                        have hcz35_0 : wr.cell? ⟨gb159, 0, none⟩ = some (.int .i64 a0_0) := (blk_cell BK159.out 0).trans rfl
                        have hcz35_1 : wr.cell? ⟨gb159, 1, none⟩ = some (.int .i64 a0_1) := (blk_cell BK159.out 1).trans rfl
                        have hcz35_2 : wr.cell? ⟨gb159, 2, none⟩ = some (.int .i64 a0_2) := (blk_cell BK159.out 2).trans rfl
                        have hcz35_3 : wr.cell? ⟨gb159, 3, none⟩ = some (.int .i64 a0_3) := (blk_cell BK159.out 3).trans rfl
                        have hcz35_4 : wr.cell? ⟨gb159, 4, none⟩ = some (.int .i64 a0_4) := (blk_cell BK159.out 4).trans rfl
                        have hcz35_5 : wr.cell? ⟨gb159, 5, none⟩ = some (.int .i64 a0_5) := (blk_cell BK159.out 5).trans rfl
                        have hcz35_6 : wr.cell? ⟨gb159, 6, none⟩ = some (.int .i64 a0_6) := (blk_cell BK159.out 6).trans rfl
                        have hcz35_7 : wr.cell? ⟨gb159, 7, none⟩ = some (.int .i64 a0_7) := (blk_cell BK159.out 7).trans rfl
                        have hcz35_8 : wr.cell? ⟨gb159, 8, none⟩ = some (.int .i64 a0_8) := (blk_cell BK159.out 8).trans rfl
                        have hcz35_9 : wr.cell? ⟨gb159, 9, none⟩ = some (.int .i64 a0_9) := (blk_cell BK159.out 9).trans rfl
                        have hcz35_10 : wr.cell? ⟨gb159, 10, none⟩ = some (.int .i64 a0_10) := (blk_cell BK159.out 10).trans rfl
                        have hcz35_11 : wr.cell? ⟨gb159, 11, none⟩ = some (.int .i64 a0_11) := (blk_cell BK159.out 11).trans rfl
                        have hfz35_0 := blk_frozen BK159.out 0
                        have hfz35_1 := blk_frozen BK159.out 1
                        have hfz35_2 := blk_frozen BK159.out 2
                        have hfz35_3 := blk_frozen BK159.out 3
                        have hfz35_4 := blk_frozen BK159.out 4
                        have hfz35_5 := blk_frozen BK159.out 5
                        have hfz35_6 := blk_frozen BK159.out 6
                        have hfz35_7 := blk_frozen BK159.out 7
                        have hfz35_8 := blk_frozen BK159.out 8
                        have hfz35_9 := blk_frozen BK159.out 9
                        have hfz35_10 := blk_frozen BK159.out 10
                        have hfz35_11 := blk_frozen BK159.out 11
                        try go_wp2_with (first | ((with_reducible refine gate_callee (f := 19) rfl ?_); refine goesL_ (some 62) rfl rfl Try.func19 (by kernel_rfl) rfl #[.agg #[.int .i64 a0_0, .int .i64 a0_1, .int .i64 a0_2, .int .i64 a0_3, .int .i64 a0_4, .int .i64 a0_5, .int .i64 a0_6, .int .i64 a0_7, .int .i64 a0_8, .int .i64 a0_9, .int .i64 a0_10, .int .i64 a0_11], .slice A1 l1.length c1] rfl (by (try simp only [List.map_toArray, List.map_cons, List.map_nil]); first | done | rfl | (simp only [List.length_drop, List.length_take]; rfl)) ?_; (with_reducible refine (route_Choose.calls k2 a0_0 a0_1 a0_2 a0_3 a0_4 a0_5 a0_6 a0_7 a0_8 a0_9 a0_10 a0_11 (fun k_ => ((P1_ k_ ∨ w.heap.size ≤ k_) ∧ (some k_ ≠ (u5 : Value).ownBlock ∧ (some k_ ≠ (u6 : Value).ownBlock ∧ (some k_ ≠ (u7 : Value).ownBlock ∧ k_ ≠ gb159))))) _ _ l1 t174 t175 t176 t177 t178 t179 t180 t181 t182 t183 t184 t185 t186 t187 t190 _ ?side1 A27.out).mono ?_); (case side1 => exact HO_1.out); rintro e w36 ⟨v188, rfl, ho0, hb⟩; refine ⟨_, rfl, ?_⟩; have n0_ := Aside0.mk (Kd.V_below (by (with_reducible repeat (first | apply Kd.V_alloc | apply Kd.V_drewN | apply Kd.V_drew)); exact HO_1.out) hb); have n1_ := Aside0.mk (Kd.N_below (by (with_reducible repeat (first | apply Kd.N_alloc | apply Kd.N_drewN | apply Kd.N_drew)); exact HO_5.out) hb); have n2_ := Aside0.mk (Kd.R_below (by (with_reducible repeat (first | apply Kd.R_alloc | apply Kd.R_drewN | apply Kd.R_drew)); exact HO_6.out) hb); have n3_ := Aside0.mk (Kd.R_below (by (with_reducible repeat (first | apply Kd.R_alloc | apply Kd.R_drewN | apply Kd.R_drew)); exact HO_7.out) hb); have n4_ := Aside0.mk (Kd.V_lower (Kd.V_mono (ok' := fun k_ => (P1_ k_ ∨ w.heap.size ≤ k_) ∧ some k_ ≠ (u5 : Value).ownBlock ∧ some k_ ≠ (u6 : Value).ownBlock ∧ some k_ ≠ (u7 : Value).ownBlock ∧ k_ ≠ gb159) ho0 (fun k_ hk_ => ⟨Or.elim hk_ (fun hs_ => hs_.1) (fun hn_ => (.inr (Nat.le_trans (below_size (by repeat (first | (with_reducible first | exact HB.out | apply below_alloc | apply pw_below_drewN | apply below_drew1 | refine below_set ?_ GE159.out) | exact HB.out))) hn_))), Or.elim hk_ (fun hs_ => hs_.2.1) (fun hn_ => (Kd.fresh' (Kd.N_lt (by (with_reducible repeat (first | apply Kd.N_alloc | apply Kd.N_drewN | apply Kd.N_drew)); exact HO_5.out)) k_ hn_)), Or.elim hk_ (fun hs_ => hs_.2.2.1) (fun hn_ => (Kd.fresh' (Kd.R_lt (by (with_reducible repeat (first | apply Kd.R_alloc | apply Kd.R_drewN | apply Kd.R_drew)); exact HO_6.out)) k_ hn_)), Or.elim hk_ (fun hs_ => hs_.2.2.2.1) (fun hn_ => (Kd.fresh' (Kd.R_lt (by (with_reducible repeat (first | apply Kd.R_alloc | apply Kd.R_drewN | apply Kd.R_drew)); exact HO_7.out)) k_ hn_)), Or.elim hk_ (fun hs_ => hs_.2.2.2.2) (fun hn_ => (Kd.freshB (g := gb159) (o := .cells #[.int .i64 a0_0, .int .i64 a0_1, .int .i64 a0_2, .int .i64 a0_3, .int .i64 a0_4, .int .i64 a0_5, .int .i64 a0_6, .int .i64 a0_7, .int .i64 a0_8, .int .i64 a0_9, .int .i64 a0_10, .int .i64 a0_11] 23 (0, 0)) (by (with_reducible repeat (first | refine blk_drewN ?_ _ | refine blk_drew ?_ | refine blk_alloc ?_ _)); exact BK159.out) k_ hn_))⟩)) (below_size (by repeat (first | (with_reducible first | exact HB.out | apply below_alloc | apply pw_below_drewN | apply below_drew1 | refine below_set ?_ GE159.out) | exact HB.out)))); have n5_ := Aside0.mk (blk_below (g := gb159) (o := .cells #[.int .i64 a0_0, .int .i64 a0_1, .int .i64 a0_2, .int .i64 a0_3, .int .i64 a0_4, .int .i64 a0_5, .int .i64 a0_6, .int .i64 a0_7, .int .i64 a0_8, .int .i64 a0_9, .int .i64 a0_10, .int .i64 a0_11] 23 (0, 0)) (by (with_reducible repeat (first | refine blk_drewN ?_ _ | refine blk_drew ?_ | refine blk_alloc ?_ _)); exact BK159.out) hb); have n6_ := Aside0.mk (below_step (by repeat (first | (with_reducible first | exact HB.out | apply below_alloc | apply pw_below_drewN | apply below_drew1 | refine below_set ?_ GE159.out) | exact HB.out)) hb); clear HO_1; clear HO_5; clear HO_6; clear HO_7; clear BK159; clear HB; have HO_1 := n0_; have HO_5 := n1_; have HO_6 := n2_; have HO_7 := n3_; have HO189 := n4_; have BK159 := n5_; have HB := n6_; clear n0_ n1_ n2_ n3_ n4_ n5_ n6_; (try clear hb); (try clear hb2); (try clear hk); (try clear hi); (try clear ho0)) | ((with_reducible refine gate_dst (N := 9) rfl ?_); (try (refine gate_guard (by rfl) ?_; dsimp only)); refine box_event ?hg (N := 9) ?hd (cs := #[.int .i64 0, .int .i64 0, .int .i64 0, .int .i64 0, .int .i64 0, .int .i64 0, .bool false, .bool false, .int .i64 0, .int .i64 0, .int .i64 0, .int .i64 0, .int .i64 0, .slice none 0 0]) (t := 38) ?hr ?_; (case hd => rfl); (case hg => rfl); (case hr => first | (go_simp; done) | (go_simp; rfl)); intro gb191 hg w37 hbox hb; have n0_ := Aside0.mk (Kd.V_below (Kd.V_elderB (by (with_reducible repeat (first | apply Kd.V_alloc | apply Kd.V_drewN | apply Kd.V_drew)); exact HO_1.out) gb191 (Nat.le_of_eq hg.symm)) hb); have n1_ := Aside0.mk (Kd.N_below (Kd.N_elderB (by (with_reducible repeat (first | apply Kd.N_alloc | apply Kd.N_drewN | apply Kd.N_drew)); exact HO_5.out) gb191 (Nat.le_of_eq hg.symm)) hb); have n2_ := Aside0.mk (Kd.R_below (by (with_reducible repeat (first | apply Kd.R_alloc | apply Kd.R_drewN | apply Kd.R_drew)); exact HO_6.out) hb); have n3_ := Aside0.mk (Kd.R_below (by (with_reducible repeat (first | apply Kd.R_alloc | apply Kd.R_drewN | apply Kd.R_drew)); exact HO_7.out) hb); have n4_ := Aside0.mk (Kd.V_below (Kd.V_elderB (by (with_reducible repeat (first | apply Kd.V_alloc | apply Kd.V_drewN | apply Kd.V_drew)); exact HO189.out) gb191 (Nat.le_of_eq hg.symm)) hb); have n5_ := Aside0.mk (blk_below (g := gb159) (o := .cells #[.int .i64 a0_0, .int .i64 a0_1, .int .i64 a0_2, .int .i64 a0_3, .int .i64 a0_4, .int .i64 a0_5, .int .i64 a0_6, .int .i64 a0_7, .int .i64 a0_8, .int .i64 a0_9, .int .i64 a0_10, .int .i64 a0_11] 23 (0, 0)) (by (with_reducible repeat (first | refine blk_drewN ?_ _ | refine blk_drew ?_ | refine blk_alloc ?_ _)); exact BK159.out) hb); have n6_ := Aside0.mk (below_step (by repeat (first | (with_reducible first | exact HB.out | apply below_alloc | apply pw_below_drewN | apply below_drew1 | refine below_set ?_ GE159.out) | exact HB.out)) hb); have n7_ := Aside0.mk (hbox); have n8_ := Aside0.mk ((by rw [hg]; exact (below_size (by repeat (first | (with_reducible first | exact HB.out | apply below_alloc | apply pw_below_drewN | apply below_drew1 | refine below_set ?_ GE159.out) | exact HB.out))) : w.heap.size ≤ gb191)); have n9_ := Aside0.mk ((by rw [hg]; exact (below_size (by repeat (first | (with_reducible first | exact HB.out | apply below_alloc | apply pw_below_drewN | apply below_drew1 | refine below_set ?_ GE159.out) | exact HB.out))) : w.heap.size ≤ gb191)); have n10_ := Aside0.mk ((by rw [hg]; exact Nat.ne_of_lt (blk_lt (g := gb159) (o := .cells #[.int .i64 a0_0, .int .i64 a0_1, .int .i64 a0_2, .int .i64 a0_3, .int .i64 a0_4, .int .i64 a0_5, .int .i64 a0_6, .int .i64 a0_7, .int .i64 a0_8, .int .i64 a0_9, .int .i64 a0_10, .int .i64 a0_11] 23 (0, 0)) (by (with_reducible repeat (first | refine blk_drewN ?_ _ | refine blk_drew ?_ | refine blk_alloc ?_ _)); exact BK159.out)) : gb159 ≠ gb191)); have n11_ := Aside0.mk ((by rw [hg]; exact Nat.ne_of_gt (blk_lt (g := gb159) (o := .cells #[.int .i64 a0_0, .int .i64 a0_1, .int .i64 a0_2, .int .i64 a0_3, .int .i64 a0_4, .int .i64 a0_5, .int .i64 a0_6, .int .i64 a0_7, .int .i64 a0_8, .int .i64 a0_9, .int .i64 a0_10, .int .i64 a0_11] 23 (0, 0)) (by (with_reducible repeat (first | refine blk_drewN ?_ _ | refine blk_drew ?_ | refine blk_alloc ?_ _)); exact BK159.out)) : gb191 ≠ gb159)); clear HO_1; clear HO_5; clear HO_6; clear HO_7; clear HO189; clear BK159; clear HB; have HO_1 := n0_; have HO_5 := n1_; have HO_6 := n2_; have HO_7 := n3_; have HO189 := n4_; have BK159 := n5_; have HB := n6_; have BK191 := n7_; have GW191 := n8_; have GE191 := n9_; have NB159_191 := n10_; have NB191_159 := n11_; clear n0_ n1_ n2_ n3_ n4_ n5_ n6_ n7_ n8_ n9_ n10_ n11_; clear hb hbox hg; have hnb38 := NB191_159.out; have hnc38 := NB159_191.out; have hcz39_0 : w37.cell? ⟨gb191, 0, none⟩ = some (.int .i64 0) := (blk_cell BK191.out 0).trans rfl; have hcz39_1 : w37.cell? ⟨gb191, 1, none⟩ = some (.int .i64 0) := (blk_cell BK191.out 1).trans rfl; have hcz39_2 : w37.cell? ⟨gb191, 2, none⟩ = some (.int .i64 0) := (blk_cell BK191.out 2).trans rfl; have hcz39_3 : w37.cell? ⟨gb191, 3, none⟩ = some (.int .i64 0) := (blk_cell BK191.out 3).trans rfl; have hcz39_4 : w37.cell? ⟨gb191, 4, none⟩ = some (.int .i64 0) := (blk_cell BK191.out 4).trans rfl; have hcz39_5 : w37.cell? ⟨gb191, 5, none⟩ = some (.int .i64 0) := (blk_cell BK191.out 5).trans rfl; have hcz39_6 : w37.cell? ⟨gb191, 6, none⟩ = some (.bool false) := (blk_cell BK191.out 6).trans rfl; have hcz39_7 : w37.cell? ⟨gb191, 7, none⟩ = some (.bool false) := (blk_cell BK191.out 7).trans rfl; have hcz39_8 : w37.cell? ⟨gb191, 8, none⟩ = some (.int .i64 0) := (blk_cell BK191.out 8).trans rfl; have hcz39_9 : w37.cell? ⟨gb191, 9, none⟩ = some (.int .i64 0) := (blk_cell BK191.out 9).trans rfl; have hcz39_10 : w37.cell? ⟨gb191, 10, none⟩ = some (.int .i64 0) := (blk_cell BK191.out 10).trans rfl; have hcz39_11 : w37.cell? ⟨gb191, 11, none⟩ = some (.int .i64 0) := (blk_cell BK191.out 11).trans rfl; have hcz39_12 : w37.cell? ⟨gb191, 12, none⟩ = some (.int .i64 0) := (blk_cell BK191.out 12).trans rfl; have hcz39_13 : w37.cell? ⟨gb191, 13, none⟩ = some (.slice none 0 0) := (blk_cell BK191.out 13).trans rfl; have hfz39_0 := blk_frozen BK191.out 0; have hfz39_1 := blk_frozen BK191.out 1; have hfz39_2 := blk_frozen BK191.out 2; have hfz39_3 := blk_frozen BK191.out 3; have hfz39_4 := blk_frozen BK191.out 4; have hfz39_5 := blk_frozen BK191.out 5; have hfz39_6 := blk_frozen BK191.out 6; have hfz39_7 := blk_frozen BK191.out 7; have hfz39_8 := blk_frozen BK191.out 8; have hfz39_9 := blk_frozen BK191.out 9; have hfz39_10 := blk_frozen BK191.out 10; have hfz39_11 := blk_frozen BK191.out 11; have hfz39_12 := blk_frozen BK191.out 12; have hfz39_13 := blk_frozen BK191.out 13; obtain ⟨Ao40, co40, eo40⟩ := Kd.V_slice HO189.out; subst eo40) | ((with_reducible refine gate_store (t := 38) (p := 9) rfl ?_); refine store_event (t := 38) (p := 9) (v := ?vo_w41) (w1 := ((((((((((((((w37.setCell ⟨gb191, 0, none⟩ (.int .i64 t174)).setCell ⟨gb191, 1, none⟩ (.int .i64 t175)).setCell ⟨gb191, 2, none⟩ (.int .i64 t176)).setCell ⟨gb191, 3, none⟩ (.int .i64 t177)).setCell ⟨gb191, 4, none⟩ (.int .i64 t178)).setCell ⟨gb191, 5, none⟩ (.int .i64 t179)).setCell ⟨gb191, 6, none⟩ (.bool t180)).setCell ⟨gb191, 7, none⟩ (.bool t181)).setCell ⟨gb191, 8, none⟩ (.int .i64 t182)).setCell ⟨gb191, 9, none⟩ (.int .i64 t183)).setCell ⟨gb191, 10, none⟩ (.int .i64 t184)).setCell ⟨gb191, 11, none⟩ (.int .i64 t185)).setCell ⟨gb191, 12, none⟩ (.int .i64 t186)).setCell ⟨gb191, 13, none⟩ (.slice Ao40 t187.length co40))) ?hg ?ho ?hn ?hr ?_; (case ho => rfl); (case hg => rfl); (case hn => rfl); (case hr => first | (go_simp; done) | (go_simp; rfl)); intro w41 hw; have n0_ : Aside0 (Kd.V k38 38 w41 w.heap.size (fun k_ => (P1_ k_ ∨ w.heap.size ≤ k_) ∧ some k_ ≠ (u5 : Value).ownBlock ∧ some k_ ≠ (u6 : Value).ownBlock ∧ some k_ ≠ (u7 : Value).ownBlock ∧ k_ ≠ gb159 ∧ k_ ≠ gb191) (.slice A1 l1.length c1) l1) := ⟨(by rw [hw]; exact (by (with_reducible repeat (first | apply Kd.V_alloc | apply Kd.V_drewN | apply Kd.V_drew)); exact Kd.V_mono (Kd.V_far (p := ⟨gb191, 13, none⟩) (Kd.V_far (p := ⟨gb191, 12, none⟩) (Kd.V_far (p := ⟨gb191, 11, none⟩) (Kd.V_far (p := ⟨gb191, 10, none⟩) (Kd.V_far (p := ⟨gb191, 9, none⟩) (Kd.V_far (p := ⟨gb191, 8, none⟩) (Kd.V_far (p := ⟨gb191, 7, none⟩) (Kd.V_far (p := ⟨gb191, 6, none⟩) (Kd.V_far (p := ⟨gb191, 5, none⟩) (Kd.V_far (p := ⟨gb191, 4, none⟩) (Kd.V_far (p := ⟨gb191, 3, none⟩) (Kd.V_far (p := ⟨gb191, 2, none⟩) (Kd.V_far (p := ⟨gb191, 1, none⟩) (Kd.V_far (p := ⟨gb191, 0, none⟩) (Kd.V_mono HO_1.out (fun k_ hk => (⟨hk, hk.2⟩ : _ ∧ k_ ≠ gb191))) (fun _ hk => hk.2) (.int .i64 t174)) (fun _ hk => hk.2) (.int .i64 t175)) (fun _ hk => hk.2) (.int .i64 t176)) (fun _ hk => hk.2) (.int .i64 t177)) (fun _ hk => hk.2) (.int .i64 t178)) (fun _ hk => hk.2) (.int .i64 t179)) (fun _ hk => hk.2) (.bool t180)) (fun _ hk => hk.2) (.bool t181)) (fun _ hk => hk.2) (.int .i64 t182)) (fun _ hk => hk.2) (.int .i64 t183)) (fun _ hk => hk.2) (.int .i64 t184)) (fun _ hk => hk.2) (.int .i64 t185)) (fun _ hk => hk.2) (.int .i64 t186)) (fun _ hk => hk.2) (.slice Ao40 t187.length co40)) (fun _ hk => ⟨hk.1.1.1, ⟨hk.1.1.2.1, ⟨hk.1.1.2.2.1, ⟨hk.1.1.2.2.2.1, ⟨hk.1.1.2.2.2.2, hk.1.2⟩⟩⟩⟩⟩)))⟩; have n1_ : Aside0 (Kd.N k38 38 w41 w.heap.size (fun k_ => (P1_ k_ ∨ w.heap.size ≤ k_) ∧ some k_ ≠ (u6 : Value).ownBlock ∧ some k_ ≠ (u7 : Value).ownBlock ∧ k_ ≠ gb159 ∧ k_ ≠ gb191) u5 x5_2) := ⟨(by rw [hw]; exact (by (with_reducible repeat (first | apply Kd.N_alloc | apply Kd.N_drewN | apply Kd.N_drew)); exact Kd.N_mono (Kd.N_far (p := ⟨gb191, 13, none⟩) (Kd.N_far (p := ⟨gb191, 12, none⟩) (Kd.N_far (p := ⟨gb191, 11, none⟩) (Kd.N_far (p := ⟨gb191, 10, none⟩) (Kd.N_far (p := ⟨gb191, 9, none⟩) (Kd.N_far (p := ⟨gb191, 8, none⟩) (Kd.N_far (p := ⟨gb191, 7, none⟩) (Kd.N_far (p := ⟨gb191, 6, none⟩) (Kd.N_far (p := ⟨gb191, 5, none⟩) (Kd.N_far (p := ⟨gb191, 4, none⟩) (Kd.N_far (p := ⟨gb191, 3, none⟩) (Kd.N_far (p := ⟨gb191, 2, none⟩) (Kd.N_far (p := ⟨gb191, 1, none⟩) (Kd.N_far (p := ⟨gb191, 0, none⟩) (Kd.N_mono HO_5.out (fun k_ hk => (⟨hk, hk.2⟩ : _ ∧ k_ ≠ gb191))) (fun _ hk => hk.2) (.int .i64 t174)) (fun _ hk => hk.2) (.int .i64 t175)) (fun _ hk => hk.2) (.int .i64 t176)) (fun _ hk => hk.2) (.int .i64 t177)) (fun _ hk => hk.2) (.int .i64 t178)) (fun _ hk => hk.2) (.int .i64 t179)) (fun _ hk => hk.2) (.bool t180)) (fun _ hk => hk.2) (.bool t181)) (fun _ hk => hk.2) (.int .i64 t182)) (fun _ hk => hk.2) (.int .i64 t183)) (fun _ hk => hk.2) (.int .i64 t184)) (fun _ hk => hk.2) (.int .i64 t185)) (fun _ hk => hk.2) (.int .i64 t186)) (fun _ hk => hk.2) (.slice Ao40 t187.length co40)) (fun _ hk => ⟨hk.1.1.1, ⟨hk.1.1.2.1, ⟨hk.1.1.2.2.1, ⟨hk.1.1.2.2.2, hk.1.2⟩⟩⟩⟩)))⟩; have n2_ : Aside0 (Kd.R (Kd.int .i64) 3 w41 w.heap.size (fun k_ => (w.heap.size ≤ k_) ∧ some k_ ≠ (u7 : Value).ownBlock) u6 x6_2) := ⟨(by rw [hw]; exact (by (with_reducible repeat (first | apply Kd.R_alloc | apply Kd.R_drewN | apply Kd.R_drew)); exact Kd.R_mono (Kd.R_far (p := ⟨gb191, 13, none⟩) (Kd.R_far (p := ⟨gb191, 12, none⟩) (Kd.R_far (p := ⟨gb191, 11, none⟩) (Kd.R_far (p := ⟨gb191, 10, none⟩) (Kd.R_far (p := ⟨gb191, 9, none⟩) (Kd.R_far (p := ⟨gb191, 8, none⟩) (Kd.R_far (p := ⟨gb191, 7, none⟩) (Kd.R_far (p := ⟨gb191, 6, none⟩) (Kd.R_far (p := ⟨gb191, 5, none⟩) (Kd.R_far (p := ⟨gb191, 4, none⟩) (Kd.R_far (p := ⟨gb191, 3, none⟩) (Kd.R_far (p := ⟨gb191, 2, none⟩) (Kd.R_far (p := ⟨gb191, 1, none⟩) (Kd.R_far (p := ⟨gb191, 0, none⟩) (Kd.R_types HO_6.out BK191.out (by decide)) (fun _ hk => hk.2) (.int .i64 t174)) (fun _ hk => hk.2) (.int .i64 t175)) (fun _ hk => hk.2) (.int .i64 t176)) (fun _ hk => hk.2) (.int .i64 t177)) (fun _ hk => hk.2) (.int .i64 t178)) (fun _ hk => hk.2) (.int .i64 t179)) (fun _ hk => hk.2) (.bool t180)) (fun _ hk => hk.2) (.bool t181)) (fun _ hk => hk.2) (.int .i64 t182)) (fun _ hk => hk.2) (.int .i64 t183)) (fun _ hk => hk.2) (.int .i64 t184)) (fun _ hk => hk.2) (.int .i64 t185)) (fun _ hk => hk.2) (.int .i64 t186)) (fun _ hk => hk.2) (.slice Ao40 t187.length co40)) (fun _ hk => ⟨hk.1.1, hk.1.2⟩)))⟩; have n3_ : Aside0 (Kd.R (Kd.int .i64) 3 w41 w.heap.size (fun k_ => (w.heap.size ≤ k_) ∧ some k_ ≠ (u6 : Value).ownBlock) u7 x7_2) := ⟨(by rw [hw]; exact (by (with_reducible repeat (first | apply Kd.R_alloc | apply Kd.R_drewN | apply Kd.R_drew)); exact Kd.R_mono (Kd.R_far (p := ⟨gb191, 13, none⟩) (Kd.R_far (p := ⟨gb191, 12, none⟩) (Kd.R_far (p := ⟨gb191, 11, none⟩) (Kd.R_far (p := ⟨gb191, 10, none⟩) (Kd.R_far (p := ⟨gb191, 9, none⟩) (Kd.R_far (p := ⟨gb191, 8, none⟩) (Kd.R_far (p := ⟨gb191, 7, none⟩) (Kd.R_far (p := ⟨gb191, 6, none⟩) (Kd.R_far (p := ⟨gb191, 5, none⟩) (Kd.R_far (p := ⟨gb191, 4, none⟩) (Kd.R_far (p := ⟨gb191, 3, none⟩) (Kd.R_far (p := ⟨gb191, 2, none⟩) (Kd.R_far (p := ⟨gb191, 1, none⟩) (Kd.R_far (p := ⟨gb191, 0, none⟩) (Kd.R_types HO_7.out BK191.out (by decide)) (fun _ hk => hk.2) (.int .i64 t174)) (fun _ hk => hk.2) (.int .i64 t175)) (fun _ hk => hk.2) (.int .i64 t176)) (fun _ hk => hk.2) (.int .i64 t177)) (fun _ hk => hk.2) (.int .i64 t178)) (fun _ hk => hk.2) (.int .i64 t179)) (fun _ hk => hk.2) (.bool t180)) (fun _ hk => hk.2) (.bool t181)) (fun _ hk => hk.2) (.int .i64 t182)) (fun _ hk => hk.2) (.int .i64 t183)) (fun _ hk => hk.2) (.int .i64 t184)) (fun _ hk => hk.2) (.int .i64 t185)) (fun _ hk => hk.2) (.int .i64 t186)) (fun _ hk => hk.2) (.slice Ao40 t187.length co40)) (fun _ hk => ⟨hk.1.1, hk.1.2⟩)))⟩; have n4_ : Aside0 (Kd.V k84 84 w41 w.heap.size (fun k_ => (P1_ k_ ∨ w.heap.size ≤ k_) ∧ some k_ ≠ (u5 : Value).ownBlock ∧ some k_ ≠ (u6 : Value).ownBlock ∧ some k_ ≠ (u7 : Value).ownBlock ∧ k_ ≠ gb159 ∧ k_ ≠ gb191) (.slice Ao40 t187.length co40) t187) := ⟨(by rw [hw]; exact (by (with_reducible repeat (first | apply Kd.V_alloc | apply Kd.V_drewN | apply Kd.V_drew)); exact Kd.V_mono (Kd.V_far (p := ⟨gb191, 13, none⟩) (Kd.V_far (p := ⟨gb191, 12, none⟩) (Kd.V_far (p := ⟨gb191, 11, none⟩) (Kd.V_far (p := ⟨gb191, 10, none⟩) (Kd.V_far (p := ⟨gb191, 9, none⟩) (Kd.V_far (p := ⟨gb191, 8, none⟩) (Kd.V_far (p := ⟨gb191, 7, none⟩) (Kd.V_far (p := ⟨gb191, 6, none⟩) (Kd.V_far (p := ⟨gb191, 5, none⟩) (Kd.V_far (p := ⟨gb191, 4, none⟩) (Kd.V_far (p := ⟨gb191, 3, none⟩) (Kd.V_far (p := ⟨gb191, 2, none⟩) (Kd.V_far (p := ⟨gb191, 1, none⟩) (Kd.V_far (p := ⟨gb191, 0, none⟩) (Kd.V_mono HO189.out (fun k_ hk => (⟨hk, hk.2⟩ : _ ∧ k_ ≠ gb191))) (fun _ hk => hk.2) (.int .i64 t174)) (fun _ hk => hk.2) (.int .i64 t175)) (fun _ hk => hk.2) (.int .i64 t176)) (fun _ hk => hk.2) (.int .i64 t177)) (fun _ hk => hk.2) (.int .i64 t178)) (fun _ hk => hk.2) (.int .i64 t179)) (fun _ hk => hk.2) (.bool t180)) (fun _ hk => hk.2) (.bool t181)) (fun _ hk => hk.2) (.int .i64 t182)) (fun _ hk => hk.2) (.int .i64 t183)) (fun _ hk => hk.2) (.int .i64 t184)) (fun _ hk => hk.2) (.int .i64 t185)) (fun _ hk => hk.2) (.int .i64 t186)) (fun _ hk => hk.2) (.slice Ao40 t187.length co40)) (fun _ hk => ⟨hk.1.1.1, ⟨hk.1.1.2.1, ⟨hk.1.1.2.2.1, ⟨hk.1.1.2.2.2.1, ⟨hk.1.1.2.2.2.2, hk.1.2⟩⟩⟩⟩⟩)))⟩; have n5_ : Aside0 (w41.heap[gb159]? = some (.cells #[.int .i64 a0_0, .int .i64 a0_1, .int .i64 a0_2, .int .i64 a0_3, .int .i64 a0_4, .int .i64 a0_5, .int .i64 a0_6, .int .i64 a0_7, .int .i64 a0_8, .int .i64 a0_9, .int .i64 a0_10, .int .i64 a0_11] 23 (0, 0))) := ⟨(by rw [hw]; exact (by (with_reducible repeat (first | refine blk_drewN ?_ _ | refine blk_drew ?_ | refine blk_alloc ?_ _)); refine blk_far ?_ NB159_191.out _; (with_reducible repeat (first | refine blk_drewN ?_ _ | refine blk_drew ?_ | refine blk_alloc ?_ _)); refine blk_far ?_ NB159_191.out _; (with_reducible repeat (first | refine blk_drewN ?_ _ | refine blk_drew ?_ | refine blk_alloc ?_ _)); refine blk_far ?_ NB159_191.out _; (with_reducible repeat (first | refine blk_drewN ?_ _ | refine blk_drew ?_ | refine blk_alloc ?_ _)); refine blk_far ?_ NB159_191.out _; (with_reducible repeat (first | refine blk_drewN ?_ _ | refine blk_drew ?_ | refine blk_alloc ?_ _)); refine blk_far ?_ NB159_191.out _; (with_reducible repeat (first | refine blk_drewN ?_ _ | refine blk_drew ?_ | refine blk_alloc ?_ _)); refine blk_far ?_ NB159_191.out _; (with_reducible repeat (first | refine blk_drewN ?_ _ | refine blk_drew ?_ | refine blk_alloc ?_ _)); refine blk_far ?_ NB159_191.out _; (with_reducible repeat (first | refine blk_drewN ?_ _ | refine blk_drew ?_ | refine blk_alloc ?_ _)); refine blk_far ?_ NB159_191.out _; (with_reducible repeat (first | refine blk_drewN ?_ _ | refine blk_drew ?_ | refine blk_alloc ?_ _)); refine blk_far ?_ NB159_191.out _; (with_reducible repeat (first | refine blk_drewN ?_ _ | refine blk_drew ?_ | refine blk_alloc ?_ _)); refine blk_far ?_ NB159_191.out _; (with_reducible repeat (first | refine blk_drewN ?_ _ | refine blk_drew ?_ | refine blk_alloc ?_ _)); refine blk_far ?_ NB159_191.out _; (with_reducible repeat (first | refine blk_drewN ?_ _ | refine blk_drew ?_ | refine blk_alloc ?_ _)); refine blk_far ?_ NB159_191.out _; (with_reducible repeat (first | refine blk_drewN ?_ _ | refine blk_drew ?_ | refine blk_alloc ?_ _)); refine blk_far ?_ NB159_191.out _; (with_reducible repeat (first | refine blk_drewN ?_ _ | refine blk_drew ?_ | refine blk_alloc ?_ _)); refine blk_far ?_ NB159_191.out _; (with_reducible repeat (first | refine blk_drewN ?_ _ | refine blk_drew ?_ | refine blk_alloc ?_ _)); exact BK159.out))⟩; have n6_ : Aside0 (w41.heap[gb191]? = some (.cells #[.int .i64 t174, .int .i64 t175, .int .i64 t176, .int .i64 t177, .int .i64 t178, .int .i64 t179, .bool t180, .bool t181, .int .i64 t182, .int .i64 t183, .int .i64 t184, .int .i64 t185, .int .i64 t186, .slice Ao40 t187.length co40] 38 (0, 0))) := ⟨(by rw [hw]; exact (by (with_reducible repeat (first | refine blk_drewN ?_ _ | refine blk_drew ?_ | refine blk_alloc ?_ _)); refine blk_put (cs := #[.int .i64 t174, .int .i64 t175, .int .i64 t176, .int .i64 t177, .int .i64 t178, .int .i64 t179, .bool t180, .bool t181, .int .i64 t182, .int .i64 t183, .int .i64 t184, .int .i64 t185, .int .i64 t186, .slice none 0 0]) ?_ 13 _ rfl; (with_reducible repeat (first | refine blk_drewN ?_ _ | refine blk_drew ?_ | refine blk_alloc ?_ _)); refine blk_put (cs := #[.int .i64 t174, .int .i64 t175, .int .i64 t176, .int .i64 t177, .int .i64 t178, .int .i64 t179, .bool t180, .bool t181, .int .i64 t182, .int .i64 t183, .int .i64 t184, .int .i64 t185, .int .i64 0, .slice none 0 0]) ?_ 12 _ rfl; (with_reducible repeat (first | refine blk_drewN ?_ _ | refine blk_drew ?_ | refine blk_alloc ?_ _)); refine blk_put (cs := #[.int .i64 t174, .int .i64 t175, .int .i64 t176, .int .i64 t177, .int .i64 t178, .int .i64 t179, .bool t180, .bool t181, .int .i64 t182, .int .i64 t183, .int .i64 t184, .int .i64 0, .int .i64 0, .slice none 0 0]) ?_ 11 _ rfl; (with_reducible repeat (first | refine blk_drewN ?_ _ | refine blk_drew ?_ | refine blk_alloc ?_ _)); refine blk_put (cs := #[.int .i64 t174, .int .i64 t175, .int .i64 t176, .int .i64 t177, .int .i64 t178, .int .i64 t179, .bool t180, .bool t181, .int .i64 t182, .int .i64 t183, .int .i64 0, .int .i64 0, .int .i64 0, .slice none 0 0]) ?_ 10 _ rfl; (with_reducible repeat (first | refine blk_drewN ?_ _ | refine blk_drew ?_ | refine blk_alloc ?_ _)); refine blk_put (cs := #[.int .i64 t174, .int .i64 t175, .int .i64 t176, .int .i64 t177, .int .i64 t178, .int .i64 t179, .bool t180, .bool t181, .int .i64 t182, .int .i64 0, .int .i64 0, .int .i64 0, .int .i64 0, .slice none 0 0]) ?_ 9 _ rfl; (with_reducible repeat (first | refine blk_drewN ?_ _ | refine blk_drew ?_ | refine blk_alloc ?_ _)); refine blk_put (cs := #[.int .i64 t174, .int .i64 t175, .int .i64 t176, .int .i64 t177, .int .i64 t178, .int .i64 t179, .bool t180, .bool t181, .int .i64 0, .int .i64 0, .int .i64 0, .int .i64 0, .int .i64 0, .slice none 0 0]) ?_ 8 _ rfl; (with_reducible repeat (first | refine blk_drewN ?_ _ | refine blk_drew ?_ | refine blk_alloc ?_ _)); refine blk_put (cs := #[.int .i64 t174, .int .i64 t175, .int .i64 t176, .int .i64 t177, .int .i64 t178, .int .i64 t179, .bool t180, .bool false, .int .i64 0, .int .i64 0, .int .i64 0, .int .i64 0, .int .i64 0, .slice none 0 0]) ?_ 7 _ rfl; (with_reducible repeat (first | refine blk_drewN ?_ _ | refine blk_drew ?_ | refine blk_alloc ?_ _)); refine blk_put (cs := #[.int .i64 t174, .int .i64 t175, .int .i64 t176, .int .i64 t177, .int .i64 t178, .int .i64 t179, .bool false, .bool false, .int .i64 0, .int .i64 0, .int .i64 0, .int .i64 0, .int .i64 0, .slice none 0 0]) ?_ 6 _ rfl; (with_reducible repeat (first | refine blk_drewN ?_ _ | refine blk_drew ?_ | refine blk_alloc ?_ _)); refine blk_put (cs := #[.int .i64 t174, .int .i64 t175, .int .i64 t176, .int .i64 t177, .int .i64 t178, .int .i64 0, .bool false, .bool false, .int .i64 0, .int .i64 0, .int .i64 0, .int .i64 0, .int .i64 0, .slice none 0 0]) ?_ 5 _ rfl; (with_reducible repeat (first | refine blk_drewN ?_ _ | refine blk_drew ?_ | refine blk_alloc ?_ _)); refine blk_put (cs := #[.int .i64 t174, .int .i64 t175, .int .i64 t176, .int .i64 t177, .int .i64 0, .int .i64 0, .bool false, .bool false, .int .i64 0, .int .i64 0, .int .i64 0, .int .i64 0, .int .i64 0, .slice none 0 0]) ?_ 4 _ rfl; (with_reducible repeat (first | refine blk_drewN ?_ _ | refine blk_drew ?_ | refine blk_alloc ?_ _)); refine blk_put (cs := #[.int .i64 t174, .int .i64 t175, .int .i64 t176, .int .i64 0, .int .i64 0, .int .i64 0, .bool false, .bool false, .int .i64 0, .int .i64 0, .int .i64 0, .int .i64 0, .int .i64 0, .slice none 0 0]) ?_ 3 _ rfl; (with_reducible repeat (first | refine blk_drewN ?_ _ | refine blk_drew ?_ | refine blk_alloc ?_ _)); refine blk_put (cs := #[.int .i64 t174, .int .i64 t175, .int .i64 0, .int .i64 0, .int .i64 0, .int .i64 0, .bool false, .bool false, .int .i64 0, .int .i64 0, .int .i64 0, .int .i64 0, .int .i64 0, .slice none 0 0]) ?_ 2 _ rfl; (with_reducible repeat (first | refine blk_drewN ?_ _ | refine blk_drew ?_ | refine blk_alloc ?_ _)); refine blk_put (cs := #[.int .i64 t174, .int .i64 0, .int .i64 0, .int .i64 0, .int .i64 0, .int .i64 0, .bool false, .bool false, .int .i64 0, .int .i64 0, .int .i64 0, .int .i64 0, .int .i64 0, .slice none 0 0]) ?_ 1 _ rfl; (with_reducible repeat (first | refine blk_drewN ?_ _ | refine blk_drew ?_ | refine blk_alloc ?_ _)); refine blk_put (cs := #[.int .i64 0, .int .i64 0, .int .i64 0, .int .i64 0, .int .i64 0, .int .i64 0, .bool false, .bool false, .int .i64 0, .int .i64 0, .int .i64 0, .int .i64 0, .int .i64 0, .slice none 0 0]) ?_ 0 _ rfl; (with_reducible repeat (first | refine blk_drewN ?_ _ | refine blk_drew ?_ | refine blk_alloc ?_ _)); exact BK191.out))⟩; have n7_ : Aside0 (Below w.heap.size w w41) := ⟨(by rw [hw]; exact (by repeat (first | (with_reducible first | exact HB.out | apply below_alloc | apply pw_below_drewN | apply below_drew1 | refine below_set ?_ GE159.out | refine below_set ?_ GE191.out) | exact HB.out)))⟩; clear hw; clear HO_1; clear HO_5; clear HO_6; clear HO_7; clear HO189; clear BK159; clear BK191; clear HB; have HO_1 := n0_; have HO_5 := n1_; have HO_6 := n2_; have HO_7 := n3_; have HO189 := n4_; have BK159 := n5_; have BK191 := n6_; have HB := n7_; clear n0_ n1_ n2_ n3_ n4_ n5_ n6_ n7_; have hcz42_0 : w41.cell? ⟨gb159, 0, none⟩ = some (.int .i64 a0_0) := (blk_cell BK159.out 0).trans rfl; have hcz42_1 : w41.cell? ⟨gb159, 1, none⟩ = some (.int .i64 a0_1) := (blk_cell BK159.out 1).trans rfl; have hcz42_2 : w41.cell? ⟨gb159, 2, none⟩ = some (.int .i64 a0_2) := (blk_cell BK159.out 2).trans rfl; have hcz42_3 : w41.cell? ⟨gb159, 3, none⟩ = some (.int .i64 a0_3) := (blk_cell BK159.out 3).trans rfl; have hcz42_4 : w41.cell? ⟨gb159, 4, none⟩ = some (.int .i64 a0_4) := (blk_cell BK159.out 4).trans rfl; have hcz42_5 : w41.cell? ⟨gb159, 5, none⟩ = some (.int .i64 a0_5) := (blk_cell BK159.out 5).trans rfl; have hcz42_6 : w41.cell? ⟨gb159, 6, none⟩ = some (.int .i64 a0_6) := (blk_cell BK159.out 6).trans rfl; have hcz42_7 : w41.cell? ⟨gb159, 7, none⟩ = some (.int .i64 a0_7) := (blk_cell BK159.out 7).trans rfl; have hcz42_8 : w41.cell? ⟨gb159, 8, none⟩ = some (.int .i64 a0_8) := (blk_cell BK159.out 8).trans rfl; have hcz42_9 : w41.cell? ⟨gb159, 9, none⟩ = some (.int .i64 a0_9) := (blk_cell BK159.out 9).trans rfl; have hcz42_10 : w41.cell? ⟨gb159, 10, none⟩ = some (.int .i64 a0_10) := (blk_cell BK159.out 10).trans rfl; have hcz42_11 : w41.cell? ⟨gb159, 11, none⟩ = some (.int .i64 a0_11) := (blk_cell BK159.out 11).trans rfl; have hfz42_0 := blk_frozen BK159.out 0; have hfz42_1 := blk_frozen BK159.out 1; have hfz42_2 := blk_frozen BK159.out 2; have hfz42_3 := blk_frozen BK159.out 3; have hfz42_4 := blk_frozen BK159.out 4; have hfz42_5 := blk_frozen BK159.out 5; have hfz42_6 := blk_frozen BK159.out 6; have hfz42_7 := blk_frozen BK159.out 7; have hfz42_8 := blk_frozen BK159.out 8; have hfz42_9 := blk_frozen BK159.out 9; have hfz42_10 := blk_frozen BK159.out 10; have hfz42_11 := blk_frozen BK159.out 11; obtain ⟨Ao43, co43, eo43⟩ := Kd.N_slice HO_5.out; subst eo43) | ((with_reducible refine gate_callee (f := 19) rfl ?_); refine goesL_ (some 68) rfl rfl Try.func19 (by kernel_rfl) rfl #[.agg #[.int .i64 a0_0, .int .i64 a0_1, .int .i64 a0_2, .int .i64 a0_3, .int .i64 a0_4, .int .i64 a0_5, .int .i64 a0_6, .int .i64 a0_7, .int .i64 a0_8, .int .i64 a0_9, .int .i64 a0_10, .int .i64 a0_11], .slice Ao43 x5_2.length co43] rfl (by (try simp only [List.map_toArray, List.map_cons, List.map_nil]); first | done | rfl | (simp only [List.length_drop, List.length_take]; rfl)) ?_; (with_reducible refine (route_Choose.calls k2 a0_0 a0_1 a0_2 a0_3 a0_4 a0_5 a0_6 a0_7 a0_8 a0_9 a0_10 a0_11 (fun k_ => ((P1_ k_ ∨ w.heap.size ≤ k_) ∧ (some k_ ≠ (u6 : Value).ownBlock ∧ (some k_ ≠ (u7 : Value).ownBlock ∧ (k_ ≠ gb159 ∧ k_ ≠ gb191))))) _ _ x5_2 t192 t193 t194 t195 t196 t197 t198 t199 t200 t201 t202 t203 t204 t205 t208 _ ?side1 A28.out).mono ?_); (case side1 => exact Kd.N_V (HO_5.out)); rintro e w44 ⟨v206, rfl, ho0, hb⟩; refine ⟨_, rfl, ?_⟩; have n0_ := Aside0.mk (Kd.V_below (by (with_reducible repeat (first | apply Kd.V_alloc | apply Kd.V_drewN | apply Kd.V_drew)); exact HO_1.out) hb); have n1_ := Aside0.mk (Kd.N_below (by (with_reducible repeat (first | apply Kd.N_alloc | apply Kd.N_drewN | apply Kd.N_drew)); exact HO_5.out) hb); have n2_ := Aside0.mk (Kd.R_below (by (with_reducible repeat (first | apply Kd.R_alloc | apply Kd.R_drewN | apply Kd.R_drew)); exact HO_6.out) hb); have n3_ := Aside0.mk (Kd.R_below (by (with_reducible repeat (first | apply Kd.R_alloc | apply Kd.R_drewN | apply Kd.R_drew)); exact HO_7.out) hb); have n4_ := Aside0.mk (Kd.V_below (by (with_reducible repeat (first | apply Kd.V_alloc | apply Kd.V_drewN | apply Kd.V_drew)); exact HO189.out) hb); have n5_ := Aside0.mk (Kd.V_lower (Kd.V_mono (ok' := fun k_ => (P1_ k_ ∨ w.heap.size ≤ k_) ∧ some k_ ≠ (u6 : Value).ownBlock ∧ some k_ ≠ (u7 : Value).ownBlock ∧ k_ ≠ gb159 ∧ k_ ≠ gb191) ho0 (fun k_ hk_ => ⟨Or.elim hk_ (fun hs_ => hs_.1) (fun hn_ => (.inr (Nat.le_trans (below_size (by repeat (first | (with_reducible first | exact HB.out | apply below_alloc | apply pw_below_drewN | apply below_drew1 | refine below_set ?_ GE159.out | refine below_set ?_ GE191.out) | exact HB.out))) hn_))), Or.elim hk_ (fun hs_ => hs_.2.1) (fun hn_ => (Kd.fresh' (Kd.R_lt (by (with_reducible repeat (first | apply Kd.R_alloc | apply Kd.R_drewN | apply Kd.R_drew)); exact HO_6.out)) k_ hn_)), Or.elim hk_ (fun hs_ => hs_.2.2.1) (fun hn_ => (Kd.fresh' (Kd.R_lt (by (with_reducible repeat (first | apply Kd.R_alloc | apply Kd.R_drewN | apply Kd.R_drew)); exact HO_7.out)) k_ hn_)), Or.elim hk_ (fun hs_ => hs_.2.2.2.1) (fun hn_ => (Kd.freshB (g := gb159) (o := .cells #[.int .i64 a0_0, .int .i64 a0_1, .int .i64 a0_2, .int .i64 a0_3, .int .i64 a0_4, .int .i64 a0_5, .int .i64 a0_6, .int .i64 a0_7, .int .i64 a0_8, .int .i64 a0_9, .int .i64 a0_10, .int .i64 a0_11] 23 (0, 0)) (by (with_reducible repeat (first | refine blk_drewN ?_ _ | refine blk_drew ?_ | refine blk_alloc ?_ _)); exact BK159.out) k_ hn_)), Or.elim hk_ (fun hs_ => hs_.2.2.2.2) (fun hn_ => (Kd.freshB (g := gb191) (o := .cells #[.int .i64 t174, .int .i64 t175, .int .i64 t176, .int .i64 t177, .int .i64 t178, .int .i64 t179, .bool t180, .bool t181, .int .i64 t182, .int .i64 t183, .int .i64 t184, .int .i64 t185, .int .i64 t186, .slice Ao40 t187.length co40] 38 (0, 0)) (by (with_reducible repeat (first | refine blk_drewN ?_ _ | refine blk_drew ?_ | refine blk_alloc ?_ _)); exact BK191.out) k_ hn_))⟩)) (below_size (by repeat (first | (with_reducible first | exact HB.out | apply below_alloc | apply pw_below_drewN | apply below_drew1 | refine below_set ?_ GE159.out | refine below_set ?_ GE191.out) | exact HB.out)))); have n6_ := Aside0.mk (blk_below (g := gb159) (o := .cells #[.int .i64 a0_0, .int .i64 a0_1, .int .i64 a0_2, .int .i64 a0_3, .int .i64 a0_4, .int .i64 a0_5, .int .i64 a0_6, .int .i64 a0_7, .int .i64 a0_8, .int .i64 a0_9, .int .i64 a0_10, .int .i64 a0_11] 23 (0, 0)) (by (with_reducible repeat (first | refine blk_drewN ?_ _ | refine blk_drew ?_ | refine blk_alloc ?_ _)); exact BK159.out) hb); have n7_ := Aside0.mk (blk_below (g := gb191) (o := .cells #[.int .i64 t174, .int .i64 t175, .int .i64 t176, .int .i64 t177, .int .i64 t178, .int .i64 t179, .bool t180, .bool t181, .int .i64 t182, .int .i64 t183, .int .i64 t184, .int .i64 t185, .int .i64 t186, .slice Ao40 t187.length co40] 38 (0, 0)) (by (with_reducible repeat (first | refine blk_drewN ?_ _ | refine blk_drew ?_ | refine blk_alloc ?_ _)); exact BK191.out) hb); have n8_ := Aside0.mk (below_step (by repeat (first | (with_reducible first | exact HB.out | apply below_alloc | apply pw_below_drewN | apply below_drew1 | refine below_set ?_ GE159.out | refine below_set ?_ GE191.out) | exact HB.out)) hb); clear HO_1; clear HO_5; clear HO_6; clear HO_7; clear HO189; clear BK159; clear BK191; clear HB; have HO_1 := n0_; have HO_5 := n1_; have HO_6 := n2_; have HO_7 := n3_; have HO189 := n4_; have HO207 := n5_; have BK159 := n6_; have BK191 := n7_; have HB := n8_; clear n0_ n1_ n2_ n3_ n4_ n5_ n6_ n7_ n8_; (try clear hb); (try clear hb2); (try clear hk); (try clear hi); (try clear ho0)) | ((with_reducible refine gate_dst (N := 11) rfl ?_); (try (refine gate_guard (by rfl) ?_; dsimp only)); refine box_event ?hg (N := 11) ?hd (cs := #[.int .i64 0, .int .i64 0, .int .i64 0, .int .i64 0, .int .i64 0, .int .i64 0, .bool false, .bool false, .int .i64 0, .int .i64 0, .int .i64 0, .int .i64 0, .int .i64 0, .slice none 0 0]) (t := 38) ?hr ?_; (case hd => rfl); (case hg => rfl); (case hr => first | (go_simp; done) | (go_simp; rfl)); intro gb209 hg w45 hbox hb; have n0_ := Aside0.mk (Kd.V_below (Kd.V_elderB (by (with_reducible repeat (first | apply Kd.V_alloc | apply Kd.V_drewN | apply Kd.V_drew)); exact HO_1.out) gb209 (Nat.le_of_eq hg.symm)) hb); have n1_ := Aside0.mk (Kd.N_below (Kd.N_elderB (by (with_reducible repeat (first | apply Kd.N_alloc | apply Kd.N_drewN | apply Kd.N_drew)); exact HO_5.out) gb209 (Nat.le_of_eq hg.symm)) hb); have n2_ := Aside0.mk (Kd.R_below (by (with_reducible repeat (first | apply Kd.R_alloc | apply Kd.R_drewN | apply Kd.R_drew)); exact HO_6.out) hb); have n3_ := Aside0.mk (Kd.R_below (by (with_reducible repeat (first | apply Kd.R_alloc | apply Kd.R_drewN | apply Kd.R_drew)); exact HO_7.out) hb); have n4_ := Aside0.mk (Kd.V_below (Kd.V_elderB (by (with_reducible repeat (first | apply Kd.V_alloc | apply Kd.V_drewN | apply Kd.V_drew)); exact HO189.out) gb209 (Nat.le_of_eq hg.symm)) hb); have n5_ := Aside0.mk (Kd.V_below (Kd.V_elderB (by (with_reducible repeat (first | apply Kd.V_alloc | apply Kd.V_drewN | apply Kd.V_drew)); exact HO207.out) gb209 (Nat.le_of_eq hg.symm)) hb); have n6_ := Aside0.mk (blk_below (g := gb159) (o := .cells #[.int .i64 a0_0, .int .i64 a0_1, .int .i64 a0_2, .int .i64 a0_3, .int .i64 a0_4, .int .i64 a0_5, .int .i64 a0_6, .int .i64 a0_7, .int .i64 a0_8, .int .i64 a0_9, .int .i64 a0_10, .int .i64 a0_11] 23 (0, 0)) (by (with_reducible repeat (first | refine blk_drewN ?_ _ | refine blk_drew ?_ | refine blk_alloc ?_ _)); exact BK159.out) hb); have n7_ := Aside0.mk (blk_below (g := gb191) (o := .cells #[.int .i64 t174, .int .i64 t175, .int .i64 t176, .int .i64 t177, .int .i64 t178, .int .i64 t179, .bool t180, .bool t181, .int .i64 t182, .int .i64 t183, .int .i64 t184, .int .i64 t185, .int .i64 t186, .slice Ao40 t187.length co40] 38 (0, 0)) (by (with_reducible repeat (first | refine blk_drewN ?_ _ | refine blk_drew ?_ | refine blk_alloc ?_ _)); exact BK191.out) hb); have n8_ := Aside0.mk (below_step (by repeat (first | (with_reducible first | exact HB.out | apply below_alloc | apply pw_below_drewN | apply below_drew1 | refine below_set ?_ GE159.out | refine below_set ?_ GE191.out) | exact HB.out)) hb); have n9_ := Aside0.mk (hbox); have n10_ := Aside0.mk ((by rw [hg]; exact (below_size (by repeat (first | (with_reducible first | exact HB.out | apply below_alloc | apply pw_below_drewN | apply below_drew1 | refine below_set ?_ GE159.out | refine below_set ?_ GE191.out) | exact HB.out))) : w.heap.size ≤ gb209)); have n11_ := Aside0.mk ((by rw [hg]; exact (below_size (by repeat (first | (with_reducible first | exact HB.out | apply below_alloc | apply pw_below_drewN | apply below_drew1 | refine below_set ?_ GE159.out | refine below_set ?_ GE191.out) | exact HB.out))) : w.heap.size ≤ gb209)); have n12_ := Aside0.mk ((by rw [hg]; exact Nat.ne_of_lt (blk_lt (g := gb159) (o := .cells #[.int .i64 a0_0, .int .i64 a0_1, .int .i64 a0_2, .int .i64 a0_3, .int .i64 a0_4, .int .i64 a0_5, .int .i64 a0_6, .int .i64 a0_7, .int .i64 a0_8, .int .i64 a0_9, .int .i64 a0_10, .int .i64 a0_11] 23 (0, 0)) (by (with_reducible repeat (first | refine blk_drewN ?_ _ | refine blk_drew ?_ | refine blk_alloc ?_ _)); exact BK159.out)) : gb159 ≠ gb209)); have n13_ := Aside0.mk ((by rw [hg]; exact Nat.ne_of_gt (blk_lt (g := gb159) (o := .cells #[.int .i64 a0_0, .int .i64 a0_1, .int .i64 a0_2, .int .i64 a0_3, .int .i64 a0_4, .int .i64 a0_5, .int .i64 a0_6, .int .i64 a0_7, .int .i64 a0_8, .int .i64 a0_9, .int .i64 a0_10, .int .i64 a0_11] 23 (0, 0)) (by (with_reducible repeat (first | refine blk_drewN ?_ _ | refine blk_drew ?_ | refine blk_alloc ?_ _)); exact BK159.out)) : gb209 ≠ gb159)); have n14_ := Aside0.mk ((by rw [hg]; exact Nat.ne_of_lt (blk_lt (g := gb191) (o := .cells #[.int .i64 t174, .int .i64 t175, .int .i64 t176, .int .i64 t177, .int .i64 t178, .int .i64 t179, .bool t180, .bool t181, .int .i64 t182, .int .i64 t183, .int .i64 t184, .int .i64 t185, .int .i64 t186, .slice Ao40 t187.length co40] 38 (0, 0)) (by (with_reducible repeat (first | refine blk_drewN ?_ _ | refine blk_drew ?_ | refine blk_alloc ?_ _)); exact BK191.out)) : gb191 ≠ gb209)); have n15_ := Aside0.mk ((by rw [hg]; exact Nat.ne_of_gt (blk_lt (g := gb191) (o := .cells #[.int .i64 t174, .int .i64 t175, .int .i64 t176, .int .i64 t177, .int .i64 t178, .int .i64 t179, .bool t180, .bool t181, .int .i64 t182, .int .i64 t183, .int .i64 t184, .int .i64 t185, .int .i64 t186, .slice Ao40 t187.length co40] 38 (0, 0)) (by (with_reducible repeat (first | refine blk_drewN ?_ _ | refine blk_drew ?_ | refine blk_alloc ?_ _)); exact BK191.out)) : gb209 ≠ gb191)); clear HO_1; clear HO_5; clear HO_6; clear HO_7; clear HO189; clear HO207; clear BK159; clear BK191; clear HB; have HO_1 := n0_; have HO_5 := n1_; have HO_6 := n2_; have HO_7 := n3_; have HO189 := n4_; have HO207 := n5_; have BK159 := n6_; have BK191 := n7_; have HB := n8_; have BK209 := n9_; have GW209 := n10_; have GE209 := n11_; have NB159_209 := n12_; have NB209_159 := n13_; have NB191_209 := n14_; have NB209_191 := n15_; clear n0_ n1_ n2_ n3_ n4_ n5_ n6_ n7_ n8_ n9_ n10_ n11_ n12_ n13_ n14_ n15_; clear hb hbox hg; have hnb46 := NB209_159.out; have hnc46 := NB159_209.out; have hnb47 := NB209_191.out; have hnc47 := NB191_209.out; have hcz48_0 : w45.cell? ⟨gb209, 0, none⟩ = some (.int .i64 0) := (blk_cell BK209.out 0).trans rfl; have hcz48_1 : w45.cell? ⟨gb209, 1, none⟩ = some (.int .i64 0) := (blk_cell BK209.out 1).trans rfl; have hcz48_2 : w45.cell? ⟨gb209, 2, none⟩ = some (.int .i64 0) := (blk_cell BK209.out 2).trans rfl; have hcz48_3 : w45.cell? ⟨gb209, 3, none⟩ = some (.int .i64 0) := (blk_cell BK209.out 3).trans rfl; have hcz48_4 : w45.cell? ⟨gb209, 4, none⟩ = some (.int .i64 0) := (blk_cell BK209.out 4).trans rfl; have hcz48_5 : w45.cell? ⟨gb209, 5, none⟩ = some (.int .i64 0) := (blk_cell BK209.out 5).trans rfl; have hcz48_6 : w45.cell? ⟨gb209, 6, none⟩ = some (.bool false) := (blk_cell BK209.out 6).trans rfl; have hcz48_7 : w45.cell? ⟨gb209, 7, none⟩ = some (.bool false) := (blk_cell BK209.out 7).trans rfl; have hcz48_8 : w45.cell? ⟨gb209, 8, none⟩ = some (.int .i64 0) := (blk_cell BK209.out 8).trans rfl; have hcz48_9 : w45.cell? ⟨gb209, 9, none⟩ = some (.int .i64 0) := (blk_cell BK209.out 9).trans rfl; have hcz48_10 : w45.cell? ⟨gb209, 10, none⟩ = some (.int .i64 0) := (blk_cell BK209.out 10).trans rfl; have hcz48_11 : w45.cell? ⟨gb209, 11, none⟩ = some (.int .i64 0) := (blk_cell BK209.out 11).trans rfl; have hcz48_12 : w45.cell? ⟨gb209, 12, none⟩ = some (.int .i64 0) := (blk_cell BK209.out 12).trans rfl; have hcz48_13 : w45.cell? ⟨gb209, 13, none⟩ = some (.slice none 0 0) := (blk_cell BK209.out 13).trans rfl; have hfz48_0 := blk_frozen BK209.out 0; have hfz48_1 := blk_frozen BK209.out 1; have hfz48_2 := blk_frozen BK209.out 2; have hfz48_3 := blk_frozen BK209.out 3; have hfz48_4 := blk_frozen BK209.out 4; have hfz48_5 := blk_frozen BK209.out 5; have hfz48_6 := blk_frozen BK209.out 6; have hfz48_7 := blk_frozen BK209.out 7; have hfz48_8 := blk_frozen BK209.out 8; have hfz48_9 := blk_frozen BK209.out 9; have hfz48_10 := blk_frozen BK209.out 10; have hfz48_11 := blk_frozen BK209.out 11; have hfz48_12 := blk_frozen BK209.out 12; have hfz48_13 := blk_frozen BK209.out 13; obtain ⟨Ao49, co49, eo49⟩ := Kd.V_slice HO207.out; subst eo49))
                        have n0_ : Aside0 (Kd.V k38 38 ((((((((((((((w45.setCell ⟨gb209, 0, none⟩ (.int .i64 t192)).setCell ⟨gb209, 1, none⟩ (.int .i64 t193)).setCell ⟨gb209, 2, none⟩ (.int .i64 t194)).setCell ⟨gb209, 3, none⟩ (.int .i64 t195)).setCell ⟨gb209, 4, none⟩ (.int .i64 t196)).setCell ⟨gb209, 5, none⟩ (.int .i64 t197)).setCell ⟨gb209, 6, none⟩ (.bool t198)).setCell ⟨gb209, 7, none⟩ (.bool t199)).setCell ⟨gb209, 8, none⟩ (.int .i64 t200)).setCell ⟨gb209, 9, none⟩ (.int .i64 t201)).setCell ⟨gb209, 10, none⟩ (.int .i64 t202)).setCell ⟨gb209, 11, none⟩ (.int .i64 t203)).setCell ⟨gb209, 12, none⟩ (.int .i64 t204)).setCell ⟨gb209, 13, none⟩ (.slice Ao49 t205.length co49)) w.heap.size (fun k_ => (P1_ k_ ∨ w.heap.size ≤ k_) ∧ some k_ ≠ (.slice Ao43 x5_2.length co43 : Value).ownBlock ∧ some k_ ≠ (u6 : Value).ownBlock ∧ some k_ ≠ (u7 : Value).ownBlock ∧ k_ ≠ gb159 ∧ k_ ≠ gb191 ∧ k_ ≠ gb209) (.slice A1 l1.length c1) l1) := ⟨by (with_reducible repeat (first | apply Kd.V_alloc | apply Kd.V_drewN | apply Kd.V_drew)); exact Kd.V_mono (Kd.V_far (p := ⟨gb209, 13, none⟩) (Kd.V_far (p := ⟨gb209, 12, none⟩) (Kd.V_far (p := ⟨gb209, 11, none⟩) (Kd.V_far (p := ⟨gb209, 10, none⟩) (Kd.V_far (p := ⟨gb209, 9, none⟩) (Kd.V_far (p := ⟨gb209, 8, none⟩) (Kd.V_far (p := ⟨gb209, 7, none⟩) (Kd.V_far (p := ⟨gb209, 6, none⟩) (Kd.V_far (p := ⟨gb209, 5, none⟩) (Kd.V_far (p := ⟨gb209, 4, none⟩) (Kd.V_far (p := ⟨gb209, 3, none⟩) (Kd.V_far (p := ⟨gb209, 2, none⟩) (Kd.V_far (p := ⟨gb209, 1, none⟩) (Kd.V_far (p := ⟨gb209, 0, none⟩) (Kd.V_mono HO_1.out (fun k_ hk => (⟨hk, hk.2⟩ : _ ∧ k_ ≠ gb209))) (fun _ hk => hk.2) (.int .i64 t192)) (fun _ hk => hk.2) (.int .i64 t193)) (fun _ hk => hk.2) (.int .i64 t194)) (fun _ hk => hk.2) (.int .i64 t195)) (fun _ hk => hk.2) (.int .i64 t196)) (fun _ hk => hk.2) (.int .i64 t197)) (fun _ hk => hk.2) (.bool t198)) (fun _ hk => hk.2) (.bool t199)) (fun _ hk => hk.2) (.int .i64 t200)) (fun _ hk => hk.2) (.int .i64 t201)) (fun _ hk => hk.2) (.int .i64 t202)) (fun _ hk => hk.2) (.int .i64 t203)) (fun _ hk => hk.2) (.int .i64 t204)) (fun _ hk => hk.2) (.slice Ao49 t205.length co49)) (fun _ hk => ⟨hk.1.1.1, ⟨hk.1.1.2.1, ⟨hk.1.1.2.2.1, ⟨hk.1.1.2.2.2.1, ⟨hk.1.1.2.2.2.2.1, ⟨hk.1.1.2.2.2.2.2, hk.1.2⟩⟩⟩⟩⟩⟩)⟩
                        have n1_ : Aside0 (Kd.N k38 38 ((((((((((((((w45.setCell ⟨gb209, 0, none⟩ (.int .i64 t192)).setCell ⟨gb209, 1, none⟩ (.int .i64 t193)).setCell ⟨gb209, 2, none⟩ (.int .i64 t194)).setCell ⟨gb209, 3, none⟩ (.int .i64 t195)).setCell ⟨gb209, 4, none⟩ (.int .i64 t196)).setCell ⟨gb209, 5, none⟩ (.int .i64 t197)).setCell ⟨gb209, 6, none⟩ (.bool t198)).setCell ⟨gb209, 7, none⟩ (.bool t199)).setCell ⟨gb209, 8, none⟩ (.int .i64 t200)).setCell ⟨gb209, 9, none⟩ (.int .i64 t201)).setCell ⟨gb209, 10, none⟩ (.int .i64 t202)).setCell ⟨gb209, 11, none⟩ (.int .i64 t203)).setCell ⟨gb209, 12, none⟩ (.int .i64 t204)).setCell ⟨gb209, 13, none⟩ (.slice Ao49 t205.length co49)) w.heap.size (fun k_ => (P1_ k_ ∨ w.heap.size ≤ k_) ∧ some k_ ≠ (u6 : Value).ownBlock ∧ some k_ ≠ (u7 : Value).ownBlock ∧ k_ ≠ gb159 ∧ k_ ≠ gb191 ∧ k_ ≠ gb209) (.slice Ao43 x5_2.length co43) x5_2) := ⟨by (with_reducible repeat (first | apply Kd.N_alloc | apply Kd.N_drewN | apply Kd.N_drew)); exact Kd.N_mono (Kd.N_far (p := ⟨gb209, 13, none⟩) (Kd.N_far (p := ⟨gb209, 12, none⟩) (Kd.N_far (p := ⟨gb209, 11, none⟩) (Kd.N_far (p := ⟨gb209, 10, none⟩) (Kd.N_far (p := ⟨gb209, 9, none⟩) (Kd.N_far (p := ⟨gb209, 8, none⟩) (Kd.N_far (p := ⟨gb209, 7, none⟩) (Kd.N_far (p := ⟨gb209, 6, none⟩) (Kd.N_far (p := ⟨gb209, 5, none⟩) (Kd.N_far (p := ⟨gb209, 4, none⟩) (Kd.N_far (p := ⟨gb209, 3, none⟩) (Kd.N_far (p := ⟨gb209, 2, none⟩) (Kd.N_far (p := ⟨gb209, 1, none⟩) (Kd.N_far (p := ⟨gb209, 0, none⟩) (Kd.N_mono HO_5.out (fun k_ hk => (⟨hk, hk.2⟩ : _ ∧ k_ ≠ gb209))) (fun _ hk => hk.2) (.int .i64 t192)) (fun _ hk => hk.2) (.int .i64 t193)) (fun _ hk => hk.2) (.int .i64 t194)) (fun _ hk => hk.2) (.int .i64 t195)) (fun _ hk => hk.2) (.int .i64 t196)) (fun _ hk => hk.2) (.int .i64 t197)) (fun _ hk => hk.2) (.bool t198)) (fun _ hk => hk.2) (.bool t199)) (fun _ hk => hk.2) (.int .i64 t200)) (fun _ hk => hk.2) (.int .i64 t201)) (fun _ hk => hk.2) (.int .i64 t202)) (fun _ hk => hk.2) (.int .i64 t203)) (fun _ hk => hk.2) (.int .i64 t204)) (fun _ hk => hk.2) (.slice Ao49 t205.length co49)) (fun _ hk => ⟨hk.1.1.1, ⟨hk.1.1.2.1, ⟨hk.1.1.2.2.1, ⟨hk.1.1.2.2.2.1, ⟨hk.1.1.2.2.2.2, hk.1.2⟩⟩⟩⟩⟩)⟩
                        have n2_ : Aside0 (Kd.R (Kd.int .i64) 3 ((((((((((((((w45.setCell ⟨gb209, 0, none⟩ (.int .i64 t192)).setCell ⟨gb209, 1, none⟩ (.int .i64 t193)).setCell ⟨gb209, 2, none⟩ (.int .i64 t194)).setCell ⟨gb209, 3, none⟩ (.int .i64 t195)).setCell ⟨gb209, 4, none⟩ (.int .i64 t196)).setCell ⟨gb209, 5, none⟩ (.int .i64 t197)).setCell ⟨gb209, 6, none⟩ (.bool t198)).setCell ⟨gb209, 7, none⟩ (.bool t199)).setCell ⟨gb209, 8, none⟩ (.int .i64 t200)).setCell ⟨gb209, 9, none⟩ (.int .i64 t201)).setCell ⟨gb209, 10, none⟩ (.int .i64 t202)).setCell ⟨gb209, 11, none⟩ (.int .i64 t203)).setCell ⟨gb209, 12, none⟩ (.int .i64 t204)).setCell ⟨gb209, 13, none⟩ (.slice Ao49 t205.length co49)) w.heap.size (fun k_ => (w.heap.size ≤ k_) ∧ some k_ ≠ (u7 : Value).ownBlock) u6 x6_2) := ⟨by (with_reducible repeat (first | apply Kd.R_alloc | apply Kd.R_drewN | apply Kd.R_drew)); exact Kd.R_mono (Kd.R_far (p := ⟨gb209, 13, none⟩) (Kd.R_far (p := ⟨gb209, 12, none⟩) (Kd.R_far (p := ⟨gb209, 11, none⟩) (Kd.R_far (p := ⟨gb209, 10, none⟩) (Kd.R_far (p := ⟨gb209, 9, none⟩) (Kd.R_far (p := ⟨gb209, 8, none⟩) (Kd.R_far (p := ⟨gb209, 7, none⟩) (Kd.R_far (p := ⟨gb209, 6, none⟩) (Kd.R_far (p := ⟨gb209, 5, none⟩) (Kd.R_far (p := ⟨gb209, 4, none⟩) (Kd.R_far (p := ⟨gb209, 3, none⟩) (Kd.R_far (p := ⟨gb209, 2, none⟩) (Kd.R_far (p := ⟨gb209, 1, none⟩) (Kd.R_far (p := ⟨gb209, 0, none⟩) (Kd.R_types HO_6.out BK209.out (by decide)) (fun _ hk => hk.2) (.int .i64 t192)) (fun _ hk => hk.2) (.int .i64 t193)) (fun _ hk => hk.2) (.int .i64 t194)) (fun _ hk => hk.2) (.int .i64 t195)) (fun _ hk => hk.2) (.int .i64 t196)) (fun _ hk => hk.2) (.int .i64 t197)) (fun _ hk => hk.2) (.bool t198)) (fun _ hk => hk.2) (.bool t199)) (fun _ hk => hk.2) (.int .i64 t200)) (fun _ hk => hk.2) (.int .i64 t201)) (fun _ hk => hk.2) (.int .i64 t202)) (fun _ hk => hk.2) (.int .i64 t203)) (fun _ hk => hk.2) (.int .i64 t204)) (fun _ hk => hk.2) (.slice Ao49 t205.length co49)) (fun _ hk => ⟨hk.1.1, hk.1.2⟩)⟩
                        have n3_ : Aside0 (Kd.R (Kd.int .i64) 3 ((((((((((((((w45.setCell ⟨gb209, 0, none⟩ (.int .i64 t192)).setCell ⟨gb209, 1, none⟩ (.int .i64 t193)).setCell ⟨gb209, 2, none⟩ (.int .i64 t194)).setCell ⟨gb209, 3, none⟩ (.int .i64 t195)).setCell ⟨gb209, 4, none⟩ (.int .i64 t196)).setCell ⟨gb209, 5, none⟩ (.int .i64 t197)).setCell ⟨gb209, 6, none⟩ (.bool t198)).setCell ⟨gb209, 7, none⟩ (.bool t199)).setCell ⟨gb209, 8, none⟩ (.int .i64 t200)).setCell ⟨gb209, 9, none⟩ (.int .i64 t201)).setCell ⟨gb209, 10, none⟩ (.int .i64 t202)).setCell ⟨gb209, 11, none⟩ (.int .i64 t203)).setCell ⟨gb209, 12, none⟩ (.int .i64 t204)).setCell ⟨gb209, 13, none⟩ (.slice Ao49 t205.length co49)) w.heap.size (fun k_ => (w.heap.size ≤ k_) ∧ some k_ ≠ (u6 : Value).ownBlock) u7 x7_2) := ⟨by (with_reducible repeat (first | apply Kd.R_alloc | apply Kd.R_drewN | apply Kd.R_drew)); exact Kd.R_mono (Kd.R_far (p := ⟨gb209, 13, none⟩) (Kd.R_far (p := ⟨gb209, 12, none⟩) (Kd.R_far (p := ⟨gb209, 11, none⟩) (Kd.R_far (p := ⟨gb209, 10, none⟩) (Kd.R_far (p := ⟨gb209, 9, none⟩) (Kd.R_far (p := ⟨gb209, 8, none⟩) (Kd.R_far (p := ⟨gb209, 7, none⟩) (Kd.R_far (p := ⟨gb209, 6, none⟩) (Kd.R_far (p := ⟨gb209, 5, none⟩) (Kd.R_far (p := ⟨gb209, 4, none⟩) (Kd.R_far (p := ⟨gb209, 3, none⟩) (Kd.R_far (p := ⟨gb209, 2, none⟩) (Kd.R_far (p := ⟨gb209, 1, none⟩) (Kd.R_far (p := ⟨gb209, 0, none⟩) (Kd.R_types HO_7.out BK209.out (by decide)) (fun _ hk => hk.2) (.int .i64 t192)) (fun _ hk => hk.2) (.int .i64 t193)) (fun _ hk => hk.2) (.int .i64 t194)) (fun _ hk => hk.2) (.int .i64 t195)) (fun _ hk => hk.2) (.int .i64 t196)) (fun _ hk => hk.2) (.int .i64 t197)) (fun _ hk => hk.2) (.bool t198)) (fun _ hk => hk.2) (.bool t199)) (fun _ hk => hk.2) (.int .i64 t200)) (fun _ hk => hk.2) (.int .i64 t201)) (fun _ hk => hk.2) (.int .i64 t202)) (fun _ hk => hk.2) (.int .i64 t203)) (fun _ hk => hk.2) (.int .i64 t204)) (fun _ hk => hk.2) (.slice Ao49 t205.length co49)) (fun _ hk => ⟨hk.1.1, hk.1.2⟩)⟩
                        have n4_ : Aside0 (Kd.V k84 84 ((((((((((((((w45.setCell ⟨gb209, 0, none⟩ (.int .i64 t192)).setCell ⟨gb209, 1, none⟩ (.int .i64 t193)).setCell ⟨gb209, 2, none⟩ (.int .i64 t194)).setCell ⟨gb209, 3, none⟩ (.int .i64 t195)).setCell ⟨gb209, 4, none⟩ (.int .i64 t196)).setCell ⟨gb209, 5, none⟩ (.int .i64 t197)).setCell ⟨gb209, 6, none⟩ (.bool t198)).setCell ⟨gb209, 7, none⟩ (.bool t199)).setCell ⟨gb209, 8, none⟩ (.int .i64 t200)).setCell ⟨gb209, 9, none⟩ (.int .i64 t201)).setCell ⟨gb209, 10, none⟩ (.int .i64 t202)).setCell ⟨gb209, 11, none⟩ (.int .i64 t203)).setCell ⟨gb209, 12, none⟩ (.int .i64 t204)).setCell ⟨gb209, 13, none⟩ (.slice Ao49 t205.length co49)) w.heap.size (fun k_ => (P1_ k_ ∨ w.heap.size ≤ k_) ∧ some k_ ≠ (.slice Ao43 x5_2.length co43 : Value).ownBlock ∧ some k_ ≠ (u6 : Value).ownBlock ∧ some k_ ≠ (u7 : Value).ownBlock ∧ k_ ≠ gb159 ∧ k_ ≠ gb191 ∧ k_ ≠ gb209) (.slice Ao40 t187.length co40) t187) := ⟨by (with_reducible repeat (first | apply Kd.V_alloc | apply Kd.V_drewN | apply Kd.V_drew)); exact Kd.V_mono (Kd.V_far (p := ⟨gb209, 13, none⟩) (Kd.V_far (p := ⟨gb209, 12, none⟩) (Kd.V_far (p := ⟨gb209, 11, none⟩) (Kd.V_far (p := ⟨gb209, 10, none⟩) (Kd.V_far (p := ⟨gb209, 9, none⟩) (Kd.V_far (p := ⟨gb209, 8, none⟩) (Kd.V_far (p := ⟨gb209, 7, none⟩) (Kd.V_far (p := ⟨gb209, 6, none⟩) (Kd.V_far (p := ⟨gb209, 5, none⟩) (Kd.V_far (p := ⟨gb209, 4, none⟩) (Kd.V_far (p := ⟨gb209, 3, none⟩) (Kd.V_far (p := ⟨gb209, 2, none⟩) (Kd.V_far (p := ⟨gb209, 1, none⟩) (Kd.V_far (p := ⟨gb209, 0, none⟩) (Kd.V_mono HO189.out (fun k_ hk => (⟨hk, hk.2⟩ : _ ∧ k_ ≠ gb209))) (fun _ hk => hk.2) (.int .i64 t192)) (fun _ hk => hk.2) (.int .i64 t193)) (fun _ hk => hk.2) (.int .i64 t194)) (fun _ hk => hk.2) (.int .i64 t195)) (fun _ hk => hk.2) (.int .i64 t196)) (fun _ hk => hk.2) (.int .i64 t197)) (fun _ hk => hk.2) (.bool t198)) (fun _ hk => hk.2) (.bool t199)) (fun _ hk => hk.2) (.int .i64 t200)) (fun _ hk => hk.2) (.int .i64 t201)) (fun _ hk => hk.2) (.int .i64 t202)) (fun _ hk => hk.2) (.int .i64 t203)) (fun _ hk => hk.2) (.int .i64 t204)) (fun _ hk => hk.2) (.slice Ao49 t205.length co49)) (fun _ hk => ⟨hk.1.1.1, ⟨hk.1.1.2.1, ⟨hk.1.1.2.2.1, ⟨hk.1.1.2.2.2.1, ⟨hk.1.1.2.2.2.2.1, ⟨hk.1.1.2.2.2.2.2, hk.1.2⟩⟩⟩⟩⟩⟩)⟩
                        have n5_ : Aside0 (Kd.V k84 84 ((((((((((((((w45.setCell ⟨gb209, 0, none⟩ (.int .i64 t192)).setCell ⟨gb209, 1, none⟩ (.int .i64 t193)).setCell ⟨gb209, 2, none⟩ (.int .i64 t194)).setCell ⟨gb209, 3, none⟩ (.int .i64 t195)).setCell ⟨gb209, 4, none⟩ (.int .i64 t196)).setCell ⟨gb209, 5, none⟩ (.int .i64 t197)).setCell ⟨gb209, 6, none⟩ (.bool t198)).setCell ⟨gb209, 7, none⟩ (.bool t199)).setCell ⟨gb209, 8, none⟩ (.int .i64 t200)).setCell ⟨gb209, 9, none⟩ (.int .i64 t201)).setCell ⟨gb209, 10, none⟩ (.int .i64 t202)).setCell ⟨gb209, 11, none⟩ (.int .i64 t203)).setCell ⟨gb209, 12, none⟩ (.int .i64 t204)).setCell ⟨gb209, 13, none⟩ (.slice Ao49 t205.length co49)) w.heap.size (fun k_ => (P1_ k_ ∨ w.heap.size ≤ k_) ∧ some k_ ≠ (u6 : Value).ownBlock ∧ some k_ ≠ (u7 : Value).ownBlock ∧ k_ ≠ gb159 ∧ k_ ≠ gb191 ∧ k_ ≠ gb209) (.slice Ao49 t205.length co49) t205) := ⟨by (with_reducible repeat (first | apply Kd.V_alloc | apply Kd.V_drewN | apply Kd.V_drew)); exact Kd.V_mono (Kd.V_far (p := ⟨gb209, 13, none⟩) (Kd.V_far (p := ⟨gb209, 12, none⟩) (Kd.V_far (p := ⟨gb209, 11, none⟩) (Kd.V_far (p := ⟨gb209, 10, none⟩) (Kd.V_far (p := ⟨gb209, 9, none⟩) (Kd.V_far (p := ⟨gb209, 8, none⟩) (Kd.V_far (p := ⟨gb209, 7, none⟩) (Kd.V_far (p := ⟨gb209, 6, none⟩) (Kd.V_far (p := ⟨gb209, 5, none⟩) (Kd.V_far (p := ⟨gb209, 4, none⟩) (Kd.V_far (p := ⟨gb209, 3, none⟩) (Kd.V_far (p := ⟨gb209, 2, none⟩) (Kd.V_far (p := ⟨gb209, 1, none⟩) (Kd.V_far (p := ⟨gb209, 0, none⟩) (Kd.V_mono HO207.out (fun k_ hk => (⟨hk, hk.2⟩ : _ ∧ k_ ≠ gb209))) (fun _ hk => hk.2) (.int .i64 t192)) (fun _ hk => hk.2) (.int .i64 t193)) (fun _ hk => hk.2) (.int .i64 t194)) (fun _ hk => hk.2) (.int .i64 t195)) (fun _ hk => hk.2) (.int .i64 t196)) (fun _ hk => hk.2) (.int .i64 t197)) (fun _ hk => hk.2) (.bool t198)) (fun _ hk => hk.2) (.bool t199)) (fun _ hk => hk.2) (.int .i64 t200)) (fun _ hk => hk.2) (.int .i64 t201)) (fun _ hk => hk.2) (.int .i64 t202)) (fun _ hk => hk.2) (.int .i64 t203)) (fun _ hk => hk.2) (.int .i64 t204)) (fun _ hk => hk.2) (.slice Ao49 t205.length co49)) (fun _ hk => ⟨hk.1.1.1, ⟨hk.1.1.2.1, ⟨hk.1.1.2.2.1, ⟨hk.1.1.2.2.2.1, ⟨hk.1.1.2.2.2.2, hk.1.2⟩⟩⟩⟩⟩)⟩
                        have n6_ : Aside0 (((((((((((((((w45.setCell ⟨gb209, 0, none⟩ (.int .i64 t192)).setCell ⟨gb209, 1, none⟩ (.int .i64 t193)).setCell ⟨gb209, 2, none⟩ (.int .i64 t194)).setCell ⟨gb209, 3, none⟩ (.int .i64 t195)).setCell ⟨gb209, 4, none⟩ (.int .i64 t196)).setCell ⟨gb209, 5, none⟩ (.int .i64 t197)).setCell ⟨gb209, 6, none⟩ (.bool t198)).setCell ⟨gb209, 7, none⟩ (.bool t199)).setCell ⟨gb209, 8, none⟩ (.int .i64 t200)).setCell ⟨gb209, 9, none⟩ (.int .i64 t201)).setCell ⟨gb209, 10, none⟩ (.int .i64 t202)).setCell ⟨gb209, 11, none⟩ (.int .i64 t203)).setCell ⟨gb209, 12, none⟩ (.int .i64 t204)).setCell ⟨gb209, 13, none⟩ (.slice Ao49 t205.length co49)).heap[gb159]? = some (.cells #[.int .i64 a0_0, .int .i64 a0_1, .int .i64 a0_2, .int .i64 a0_3, .int .i64 a0_4, .int .i64 a0_5, .int .i64 a0_6, .int .i64 a0_7, .int .i64 a0_8, .int .i64 a0_9, .int .i64 a0_10, .int .i64 a0_11] 23 (0, 0))) := ⟨by (with_reducible repeat (first | refine blk_drewN ?_ _ | refine blk_drew ?_ | refine blk_alloc ?_ _)); refine blk_far ?_ NB159_209.out _; (with_reducible repeat (first | refine blk_drewN ?_ _ | refine blk_drew ?_ | refine blk_alloc ?_ _)); refine blk_far ?_ NB159_209.out _; (with_reducible repeat (first | refine blk_drewN ?_ _ | refine blk_drew ?_ | refine blk_alloc ?_ _)); refine blk_far ?_ NB159_209.out _; (with_reducible repeat (first | refine blk_drewN ?_ _ | refine blk_drew ?_ | refine blk_alloc ?_ _)); refine blk_far ?_ NB159_209.out _; (with_reducible repeat (first | refine blk_drewN ?_ _ | refine blk_drew ?_ | refine blk_alloc ?_ _)); refine blk_far ?_ NB159_209.out _; (with_reducible repeat (first | refine blk_drewN ?_ _ | refine blk_drew ?_ | refine blk_alloc ?_ _)); refine blk_far ?_ NB159_209.out _; (with_reducible repeat (first | refine blk_drewN ?_ _ | refine blk_drew ?_ | refine blk_alloc ?_ _)); refine blk_far ?_ NB159_209.out _; (with_reducible repeat (first | refine blk_drewN ?_ _ | refine blk_drew ?_ | refine blk_alloc ?_ _)); refine blk_far ?_ NB159_209.out _; (with_reducible repeat (first | refine blk_drewN ?_ _ | refine blk_drew ?_ | refine blk_alloc ?_ _)); refine blk_far ?_ NB159_209.out _; (with_reducible repeat (first | refine blk_drewN ?_ _ | refine blk_drew ?_ | refine blk_alloc ?_ _)); refine blk_far ?_ NB159_209.out _; (with_reducible repeat (first | refine blk_drewN ?_ _ | refine blk_drew ?_ | refine blk_alloc ?_ _)); refine blk_far ?_ NB159_209.out _; (with_reducible repeat (first | refine blk_drewN ?_ _ | refine blk_drew ?_ | refine blk_alloc ?_ _)); refine blk_far ?_ NB159_209.out _; (with_reducible repeat (first | refine blk_drewN ?_ _ | refine blk_drew ?_ | refine blk_alloc ?_ _)); refine blk_far ?_ NB159_209.out _; (with_reducible repeat (first | refine blk_drewN ?_ _ | refine blk_drew ?_ | refine blk_alloc ?_ _)); refine blk_far ?_ NB159_209.out _; (with_reducible repeat (first | refine blk_drewN ?_ _ | refine blk_drew ?_ | refine blk_alloc ?_ _)); exact BK159.out⟩
                        have n7_ : Aside0 (((((((((((((((w45.setCell ⟨gb209, 0, none⟩ (.int .i64 t192)).setCell ⟨gb209, 1, none⟩ (.int .i64 t193)).setCell ⟨gb209, 2, none⟩ (.int .i64 t194)).setCell ⟨gb209, 3, none⟩ (.int .i64 t195)).setCell ⟨gb209, 4, none⟩ (.int .i64 t196)).setCell ⟨gb209, 5, none⟩ (.int .i64 t197)).setCell ⟨gb209, 6, none⟩ (.bool t198)).setCell ⟨gb209, 7, none⟩ (.bool t199)).setCell ⟨gb209, 8, none⟩ (.int .i64 t200)).setCell ⟨gb209, 9, none⟩ (.int .i64 t201)).setCell ⟨gb209, 10, none⟩ (.int .i64 t202)).setCell ⟨gb209, 11, none⟩ (.int .i64 t203)).setCell ⟨gb209, 12, none⟩ (.int .i64 t204)).setCell ⟨gb209, 13, none⟩ (.slice Ao49 t205.length co49)).heap[gb191]? = some (.cells #[.int .i64 t174, .int .i64 t175, .int .i64 t176, .int .i64 t177, .int .i64 t178, .int .i64 t179, .bool t180, .bool t181, .int .i64 t182, .int .i64 t183, .int .i64 t184, .int .i64 t185, .int .i64 t186, .slice Ao40 t187.length co40] 38 (0, 0))) := ⟨by (with_reducible repeat (first | refine blk_drewN ?_ _ | refine blk_drew ?_ | refine blk_alloc ?_ _)); refine blk_far ?_ NB191_209.out _; (with_reducible repeat (first | refine blk_drewN ?_ _ | refine blk_drew ?_ | refine blk_alloc ?_ _)); refine blk_far ?_ NB191_209.out _; (with_reducible repeat (first | refine blk_drewN ?_ _ | refine blk_drew ?_ | refine blk_alloc ?_ _)); refine blk_far ?_ NB191_209.out _; (with_reducible repeat (first | refine blk_drewN ?_ _ | refine blk_drew ?_ | refine blk_alloc ?_ _)); refine blk_far ?_ NB191_209.out _; (with_reducible repeat (first | refine blk_drewN ?_ _ | refine blk_drew ?_ | refine blk_alloc ?_ _)); refine blk_far ?_ NB191_209.out _; (with_reducible repeat (first | refine blk_drewN ?_ _ | refine blk_drew ?_ | refine blk_alloc ?_ _)); refine blk_far ?_ NB191_209.out _; (with_reducible repeat (first | refine blk_drewN ?_ _ | refine blk_drew ?_ | refine blk_alloc ?_ _)); refine blk_far ?_ NB191_209.out _; (with_reducible repeat (first | refine blk_drewN ?_ _ | refine blk_drew ?_ | refine blk_alloc ?_ _)); refine blk_far ?_ NB191_209.out _; (with_reducible repeat (first | refine blk_drewN ?_ _ | refine blk_drew ?_ | refine blk_alloc ?_ _)); refine blk_far ?_ NB191_209.out _; (with_reducible repeat (first | refine blk_drewN ?_ _ | refine blk_drew ?_ | refine blk_alloc ?_ _)); refine blk_far ?_ NB191_209.out _; (with_reducible repeat (first | refine blk_drewN ?_ _ | refine blk_drew ?_ | refine blk_alloc ?_ _)); refine blk_far ?_ NB191_209.out _; (with_reducible repeat (first | refine blk_drewN ?_ _ | refine blk_drew ?_ | refine blk_alloc ?_ _)); refine blk_far ?_ NB191_209.out _; (with_reducible repeat (first | refine blk_drewN ?_ _ | refine blk_drew ?_ | refine blk_alloc ?_ _)); refine blk_far ?_ NB191_209.out _; (with_reducible repeat (first | refine blk_drewN ?_ _ | refine blk_drew ?_ | refine blk_alloc ?_ _)); refine blk_far ?_ NB191_209.out _; (with_reducible repeat (first | refine blk_drewN ?_ _ | refine blk_drew ?_ | refine blk_alloc ?_ _)); exact BK191.out⟩
                        have n8_ : Aside0 (((((((((((((((w45.setCell ⟨gb209, 0, none⟩ (.int .i64 t192)).setCell ⟨gb209, 1, none⟩ (.int .i64 t193)).setCell ⟨gb209, 2, none⟩ (.int .i64 t194)).setCell ⟨gb209, 3, none⟩ (.int .i64 t195)).setCell ⟨gb209, 4, none⟩ (.int .i64 t196)).setCell ⟨gb209, 5, none⟩ (.int .i64 t197)).setCell ⟨gb209, 6, none⟩ (.bool t198)).setCell ⟨gb209, 7, none⟩ (.bool t199)).setCell ⟨gb209, 8, none⟩ (.int .i64 t200)).setCell ⟨gb209, 9, none⟩ (.int .i64 t201)).setCell ⟨gb209, 10, none⟩ (.int .i64 t202)).setCell ⟨gb209, 11, none⟩ (.int .i64 t203)).setCell ⟨gb209, 12, none⟩ (.int .i64 t204)).setCell ⟨gb209, 13, none⟩ (.slice Ao49 t205.length co49)).heap[gb209]? = some (.cells #[.int .i64 t192, .int .i64 t193, .int .i64 t194, .int .i64 t195, .int .i64 t196, .int .i64 t197, .bool t198, .bool t199, .int .i64 t200, .int .i64 t201, .int .i64 t202, .int .i64 t203, .int .i64 t204, .slice Ao49 t205.length co49] 38 (0, 0))) := ⟨by (with_reducible repeat (first | refine blk_drewN ?_ _ | refine blk_drew ?_ | refine blk_alloc ?_ _)); refine blk_put (cs := #[.int .i64 t192, .int .i64 t193, .int .i64 t194, .int .i64 t195, .int .i64 t196, .int .i64 t197, .bool t198, .bool t199, .int .i64 t200, .int .i64 t201, .int .i64 t202, .int .i64 t203, .int .i64 t204, .slice none 0 0]) ?_ 13 _ rfl; (with_reducible repeat (first | refine blk_drewN ?_ _ | refine blk_drew ?_ | refine blk_alloc ?_ _)); refine blk_put (cs := #[.int .i64 t192, .int .i64 t193, .int .i64 t194, .int .i64 t195, .int .i64 t196, .int .i64 t197, .bool t198, .bool t199, .int .i64 t200, .int .i64 t201, .int .i64 t202, .int .i64 t203, .int .i64 0, .slice none 0 0]) ?_ 12 _ rfl; (with_reducible repeat (first | refine blk_drewN ?_ _ | refine blk_drew ?_ | refine blk_alloc ?_ _)); refine blk_put (cs := #[.int .i64 t192, .int .i64 t193, .int .i64 t194, .int .i64 t195, .int .i64 t196, .int .i64 t197, .bool t198, .bool t199, .int .i64 t200, .int .i64 t201, .int .i64 t202, .int .i64 0, .int .i64 0, .slice none 0 0]) ?_ 11 _ rfl; (with_reducible repeat (first | refine blk_drewN ?_ _ | refine blk_drew ?_ | refine blk_alloc ?_ _)); refine blk_put (cs := #[.int .i64 t192, .int .i64 t193, .int .i64 t194, .int .i64 t195, .int .i64 t196, .int .i64 t197, .bool t198, .bool t199, .int .i64 t200, .int .i64 t201, .int .i64 0, .int .i64 0, .int .i64 0, .slice none 0 0]) ?_ 10 _ rfl; (with_reducible repeat (first | refine blk_drewN ?_ _ | refine blk_drew ?_ | refine blk_alloc ?_ _)); refine blk_put (cs := #[.int .i64 t192, .int .i64 t193, .int .i64 t194, .int .i64 t195, .int .i64 t196, .int .i64 t197, .bool t198, .bool t199, .int .i64 t200, .int .i64 0, .int .i64 0, .int .i64 0, .int .i64 0, .slice none 0 0]) ?_ 9 _ rfl; (with_reducible repeat (first | refine blk_drewN ?_ _ | refine blk_drew ?_ | refine blk_alloc ?_ _)); refine blk_put (cs := #[.int .i64 t192, .int .i64 t193, .int .i64 t194, .int .i64 t195, .int .i64 t196, .int .i64 t197, .bool t198, .bool t199, .int .i64 0, .int .i64 0, .int .i64 0, .int .i64 0, .int .i64 0, .slice none 0 0]) ?_ 8 _ rfl; (with_reducible repeat (first | refine blk_drewN ?_ _ | refine blk_drew ?_ | refine blk_alloc ?_ _)); refine blk_put (cs := #[.int .i64 t192, .int .i64 t193, .int .i64 t194, .int .i64 t195, .int .i64 t196, .int .i64 t197, .bool t198, .bool false, .int .i64 0, .int .i64 0, .int .i64 0, .int .i64 0, .int .i64 0, .slice none 0 0]) ?_ 7 _ rfl; (with_reducible repeat (first | refine blk_drewN ?_ _ | refine blk_drew ?_ | refine blk_alloc ?_ _)); refine blk_put (cs := #[.int .i64 t192, .int .i64 t193, .int .i64 t194, .int .i64 t195, .int .i64 t196, .int .i64 t197, .bool false, .bool false, .int .i64 0, .int .i64 0, .int .i64 0, .int .i64 0, .int .i64 0, .slice none 0 0]) ?_ 6 _ rfl; (with_reducible repeat (first | refine blk_drewN ?_ _ | refine blk_drew ?_ | refine blk_alloc ?_ _)); refine blk_put (cs := #[.int .i64 t192, .int .i64 t193, .int .i64 t194, .int .i64 t195, .int .i64 t196, .int .i64 0, .bool false, .bool false, .int .i64 0, .int .i64 0, .int .i64 0, .int .i64 0, .int .i64 0, .slice none 0 0]) ?_ 5 _ rfl; (with_reducible repeat (first | refine blk_drewN ?_ _ | refine blk_drew ?_ | refine blk_alloc ?_ _)); refine blk_put (cs := #[.int .i64 t192, .int .i64 t193, .int .i64 t194, .int .i64 t195, .int .i64 0, .int .i64 0, .bool false, .bool false, .int .i64 0, .int .i64 0, .int .i64 0, .int .i64 0, .int .i64 0, .slice none 0 0]) ?_ 4 _ rfl; (with_reducible repeat (first | refine blk_drewN ?_ _ | refine blk_drew ?_ | refine blk_alloc ?_ _)); refine blk_put (cs := #[.int .i64 t192, .int .i64 t193, .int .i64 t194, .int .i64 0, .int .i64 0, .int .i64 0, .bool false, .bool false, .int .i64 0, .int .i64 0, .int .i64 0, .int .i64 0, .int .i64 0, .slice none 0 0]) ?_ 3 _ rfl; (with_reducible repeat (first | refine blk_drewN ?_ _ | refine blk_drew ?_ | refine blk_alloc ?_ _)); refine blk_put (cs := #[.int .i64 t192, .int .i64 t193, .int .i64 0, .int .i64 0, .int .i64 0, .int .i64 0, .bool false, .bool false, .int .i64 0, .int .i64 0, .int .i64 0, .int .i64 0, .int .i64 0, .slice none 0 0]) ?_ 2 _ rfl; (with_reducible repeat (first | refine blk_drewN ?_ _ | refine blk_drew ?_ | refine blk_alloc ?_ _)); refine blk_put (cs := #[.int .i64 t192, .int .i64 0, .int .i64 0, .int .i64 0, .int .i64 0, .int .i64 0, .bool false, .bool false, .int .i64 0, .int .i64 0, .int .i64 0, .int .i64 0, .int .i64 0, .slice none 0 0]) ?_ 1 _ rfl; (with_reducible repeat (first | refine blk_drewN ?_ _ | refine blk_drew ?_ | refine blk_alloc ?_ _)); refine blk_put (cs := #[.int .i64 0, .int .i64 0, .int .i64 0, .int .i64 0, .int .i64 0, .int .i64 0, .bool false, .bool false, .int .i64 0, .int .i64 0, .int .i64 0, .int .i64 0, .int .i64 0, .slice none 0 0]) ?_ 0 _ rfl; (with_reducible repeat (first | refine blk_drewN ?_ _ | refine blk_drew ?_ | refine blk_alloc ?_ _)); exact BK209.out⟩
                        have n9_ : Aside0 (Below w.heap.size w ((((((((((((((w45.setCell ⟨gb209, 0, none⟩ (.int .i64 t192)).setCell ⟨gb209, 1, none⟩ (.int .i64 t193)).setCell ⟨gb209, 2, none⟩ (.int .i64 t194)).setCell ⟨gb209, 3, none⟩ (.int .i64 t195)).setCell ⟨gb209, 4, none⟩ (.int .i64 t196)).setCell ⟨gb209, 5, none⟩ (.int .i64 t197)).setCell ⟨gb209, 6, none⟩ (.bool t198)).setCell ⟨gb209, 7, none⟩ (.bool t199)).setCell ⟨gb209, 8, none⟩ (.int .i64 t200)).setCell ⟨gb209, 9, none⟩ (.int .i64 t201)).setCell ⟨gb209, 10, none⟩ (.int .i64 t202)).setCell ⟨gb209, 11, none⟩ (.int .i64 t203)).setCell ⟨gb209, 12, none⟩ (.int .i64 t204)).setCell ⟨gb209, 13, none⟩ (.slice Ao49 t205.length co49))) := ⟨by repeat (first | (with_reducible first | exact HB.out | apply below_alloc | apply pw_below_drewN | apply below_drew1 | refine below_set ?_ GE159.out | refine below_set ?_ GE191.out | refine below_set ?_ GE209.out) | exact HB.out)⟩
                        (try clear HO_1)
                        (try clear HO_5)
                        (try clear HO_6)
                        (try clear HO_7)
                        (try clear HO189)
                        (try clear HO207)
                        (try clear BK159)
                        (try clear BK191)
                        (try clear BK209)
                        (try clear HB)
                        generalize ((((((((((((((w45.setCell ⟨gb209, 0, none⟩ (.int .i64 t192)).setCell ⟨gb209, 1, none⟩ (.int .i64 t193)).setCell ⟨gb209, 2, none⟩ (.int .i64 t194)).setCell ⟨gb209, 3, none⟩ (.int .i64 t195)).setCell ⟨gb209, 4, none⟩ (.int .i64 t196)).setCell ⟨gb209, 5, none⟩ (.int .i64 t197)).setCell ⟨gb209, 6, none⟩ (.bool t198)).setCell ⟨gb209, 7, none⟩ (.bool t199)).setCell ⟨gb209, 8, none⟩ (.int .i64 t200)).setCell ⟨gb209, 9, none⟩ (.int .i64 t201)).setCell ⟨gb209, 10, none⟩ (.int .i64 t202)).setCell ⟨gb209, 11, none⟩ (.int .i64 t203)).setCell ⟨gb209, 12, none⟩ (.int .i64 t204)).setCell ⟨gb209, 13, none⟩ (.slice Ao49 t205.length co49)) = w50 at n0_ n1_ n2_ n3_ n4_ n5_ n6_ n7_ n8_ n9_ ⊢
                        have HO_1 := n0_
                        have HO_5 := n1_
                        have HO_6 := n2_
                        have HO_7 := n3_
                        have HO189 := n4_
                        have HO207 := n5_
                        have BK159 := n6_
                        have BK191 := n7_
                        have BK209 := n8_
                        have HB := n9_
                        clear n0_ n1_ n2_ n3_ n4_ n5_ n6_ n7_ n8_ n9_
                        have n0_ := Aside0.mk (Kd.V_drew HO_1.out)
                        have n1_ := Aside0.mk (Kd.N_drew HO_5.out)
                        have n2_ := Aside0.mk (Kd.R_drew HO_6.out)
                        have n3_ := Aside0.mk (Kd.R_drew HO_7.out)
                        have n4_ := Aside0.mk (Kd.V_drew HO189.out)
                        have n5_ := Aside0.mk (Kd.V_drew HO207.out)
                        have n6_ := Aside0.mk (blk_drew BK159.out)
                        have n7_ := Aside0.mk (blk_drew BK191.out)
                        have n8_ := Aside0.mk (blk_drew BK209.out)
                        have n9_ := Aside0.mk (below_drew1 HB.out)
                        clear HO_1
                        clear HO_5
                        clear HO_6
                        clear HO_7
                        clear HO189
                        clear HO207
                        clear BK159
                        clear BK191
                        clear BK209
                        clear HB
                        have HO_1 := n0_
                        have HO_5 := n1_
                        have HO_6 := n2_
                        have HO_7 := n3_
                        have HO189 := n4_
                        have HO207 := n5_
                        have BK159 := n6_
                        have BK191 := n7_
                        have BK209 := n8_
                        have HB := n9_
                        clear n0_ n1_ n2_ n3_ n4_ n5_ n6_ n7_ n8_ n9_
                        obtain ⟨Ao52, co52, eo52⟩ := Kd.R_slice HO_6.out
                        (first | subst eo52 | (injection eo52 with f1_ f2_ f3_; have f4_ := f1_.symm; have f5_ := f3_.symm; clear f1_ f2_ f3_; subst f4_; subst f5_))
                        refine start_ (n := 34) (S := fun w' => w'.cell? ⟨gb159, 0, none⟩ = some (.int .i64 a0_0) ∧ w'.cell? ⟨gb159, 1, none⟩ = some (.int .i64 a0_1) ∧ w'.cell? ⟨gb159, 2, none⟩ = some (.int .i64 a0_2) ∧ w'.cell? ⟨gb159, 3, none⟩ = some (.int .i64 a0_3) ∧ w'.cell? ⟨gb159, 4, none⟩ = some (.int .i64 a0_4) ∧ w'.cell? ⟨gb159, 5, none⟩ = some (.int .i64 a0_5) ∧ w'.cell? ⟨gb159, 6, none⟩ = some (.int .i64 a0_6) ∧ w'.cell? ⟨gb159, 7, none⟩ = some (.int .i64 a0_7) ∧ w'.cell? ⟨gb159, 8, none⟩ = some (.int .i64 a0_8) ∧ w'.cell? ⟨gb159, 9, none⟩ = some (.int .i64 a0_9) ∧ w'.cell? ⟨gb159, 10, none⟩ = some (.int .i64 a0_10) ∧ w'.cell? ⟨gb159, 11, none⟩ = some (.int .i64 a0_11) ∧ w'.cell? ⟨gb191, 0, none⟩ = some (.int .i64 t174) ∧ w'.cell? ⟨gb191, 1, none⟩ = some (.int .i64 t175) ∧ w'.cell? ⟨gb191, 2, none⟩ = some (.int .i64 t176) ∧ w'.cell? ⟨gb191, 3, none⟩ = some (.int .i64 t177) ∧ w'.cell? ⟨gb191, 4, none⟩ = some (.int .i64 t178) ∧ w'.cell? ⟨gb191, 5, none⟩ = some (.int .i64 t179) ∧ w'.cell? ⟨gb191, 6, none⟩ = some (.bool t180) ∧ w'.cell? ⟨gb191, 7, none⟩ = some (.bool t181) ∧ w'.cell? ⟨gb191, 8, none⟩ = some (.int .i64 t182) ∧ w'.cell? ⟨gb191, 9, none⟩ = some (.int .i64 t183) ∧ w'.cell? ⟨gb191, 10, none⟩ = some (.int .i64 t184) ∧ w'.cell? ⟨gb191, 11, none⟩ = some (.int .i64 t185) ∧ w'.cell? ⟨gb191, 12, none⟩ = some (.int .i64 t186) ∧ w'.cell? ⟨gb191, 13, none⟩ = some (.slice Ao40 t187.length co40) ∧ w'.cell? ⟨gb209, 0, none⟩ = some (.int .i64 t192) ∧ w'.cell? ⟨gb209, 1, none⟩ = some (.int .i64 t193) ∧ w'.cell? ⟨gb209, 2, none⟩ = some (.int .i64 t194) ∧ w'.cell? ⟨gb209, 3, none⟩ = some (.int .i64 t195) ∧ w'.cell? ⟨gb209, 4, none⟩ = some (.int .i64 t196) ∧ w'.cell? ⟨gb209, 5, none⟩ = some (.int .i64 t197) ∧ w'.cell? ⟨gb209, 6, none⟩ = some (.bool t198) ∧ w'.cell? ⟨gb209, 7, none⟩ = some (.bool t199) ∧ w'.cell? ⟨gb209, 8, none⟩ = some (.int .i64 t200) ∧ w'.cell? ⟨gb209, 9, none⟩ = some (.int .i64 t201) ∧ w'.cell? ⟨gb209, 10, none⟩ = some (.int .i64 t202) ∧ w'.cell? ⟨gb209, 11, none⟩ = some (.int .i64 t203) ∧ w'.cell? ⟨gb209, 12, none⟩ = some (.int .i64 t204) ∧ w'.cell? ⟨gb209, 13, none⟩ = some (.slice Ao49 t205.length co49)) (ds := []) #[false, false, false, false, false, false, false, false, false, false, false, false, false, false, false, false, false, false, false, false, false, false, false, false, false, false, false, false, false, false, false, false, false, false] (by kernel_rfl) rfl rfl ⟨(blk_cell BK159.out 0).trans rfl, (blk_cell BK159.out 1).trans rfl, (blk_cell BK159.out 2).trans rfl, (blk_cell BK159.out 3).trans rfl, (blk_cell BK159.out 4).trans rfl, (blk_cell BK159.out 5).trans rfl, (blk_cell BK159.out 6).trans rfl, (blk_cell BK159.out 7).trans rfl, (blk_cell BK159.out 8).trans rfl, (blk_cell BK159.out 9).trans rfl, (blk_cell BK159.out 10).trans rfl, (blk_cell BK159.out 11).trans rfl, (blk_cell BK191.out 0).trans rfl, (blk_cell BK191.out 1).trans rfl, (blk_cell BK191.out 2).trans rfl, (blk_cell BK191.out 3).trans rfl, (blk_cell BK191.out 4).trans rfl, (blk_cell BK191.out 5).trans rfl, (blk_cell BK191.out 6).trans rfl, (blk_cell BK191.out 7).trans rfl, (blk_cell BK191.out 8).trans rfl, (blk_cell BK191.out 9).trans rfl, (blk_cell BK191.out 10).trans rfl, (blk_cell BK191.out 11).trans rfl, (blk_cell BK191.out 12).trans rfl, (blk_cell BK191.out 13).trans rfl, (blk_cell BK209.out 0).trans rfl, (blk_cell BK209.out 1).trans rfl, (blk_cell BK209.out 2).trans rfl, (blk_cell BK209.out 3).trans rfl, (blk_cell BK209.out 4).trans rfl, (blk_cell BK209.out 5).trans rfl, (blk_cell BK209.out 6).trans rfl, (blk_cell BK209.out 7).trans rfl, (blk_cell BK209.out 8).trans rfl, (blk_cell BK209.out 9).trans rfl, (blk_cell BK209.out 10).trans rfl, (blk_cell BK209.out 11).trans rfl, (blk_cell BK209.out 12).trans rfl, (blk_cell BK209.out 13).trans rfl⟩ (fun hHeld => ?_); refine with_tabW clepsydralaw15_RouteOrders.tab16 clepsydralaw15_RouteOrders.bits16 (fun HT_ HW_ => ?_)
                        generalize w50.drew = w51 at HO_1 HO_5 HO_6 HO_7 HO189 HO207 BK159 BK191 BK209 HB hHeld ⊢
                        refine pure_ (i := 1) (N := some 72) (v := ?_) (a' := ?_) #[false, true, false, false, false, false, false, false, false, false, false, false, false, false, false, false, false, false, false, false, false, false, false, false, false, false, false, false, false, false, false, false, false, false] rfl rfl (any_of HT_.out (by kernel_rfl)) (fun _ _ _ h => h) (Or.inl ⟨by rfl, ?_⟩) ?_ ?_
                        rotate_left
                        · intro w'
                          go_simp
                          with_reducible rfl
                        rotate_left
                        · simp only [Act.put, List.setIfInBounds_toArray, List.set_cons_zero, List.set_cons_succ, i64_w, i32_w]
                          rfl
                        refine pure_ (i := 4) (N := some 75) (v := ?_) (a' := ?_) #[false, true, false, false, true, false, false, false, false, false, false, false, false, false, false, false, false, false, false, false, false, false, false, false, false, false, false, false, false, false, false, false, false, false] rfl rfl (any_of HT_.out (by kernel_rfl)) (fun _ _ _ h => h) (Or.inl ⟨by rfl, ?_⟩) ?_ ?_
                        rotate_left
                        · intro w'
                          go_simp
                          with_reducible rfl
                        rotate_left
                        · simp only [Act.put, List.setIfInBounds_toArray, List.set_cons_zero, List.set_cons_succ, i64_w, i32_w]
                          rfl
                        refine take_ (i := 0) (N := some 71) (v := ?_) (a' := ?_) #[true, true, false, false, true, false, false, false, false, false, false, false, false, false, false, false, false, false, false, false, false, false, false, false, false, false, false, false, false, false, false, false, false, false] rfl rfl (take_ofW HT_.out HW_.out (by kernel_rfl)) (fun _ _ _ h => h) (Or.inl ⟨by rfl, ?_⟩) hHeld ?_ ?_
                        rotate_left
                        · rintro w' ⟨s0, s1, s2, s3, s4, s5, s6, s7, s8, s9, s10, s11, s12, s13, s14, s15, s16, s17, s18, s19, s20, s21, s22, s23, s24, s25, s26, s27, s28, s29, s30, s31, s32, s33, s34, s35, s36, s37, s38, s39⟩
                          go_simp
                          with_reducible rfl
                        rotate_left
                        · simp only [Act.put, List.setIfInBounds_toArray, List.set_cons_zero, List.set_cons_succ, i64_w, i32_w]
                          rfl
                        refine take_ (i := 3) (N := some 74) (v := ?_) (a' := ?_) #[true, true, false, true, true, false, false, false, false, false, false, false, false, false, false, false, false, false, false, false, false, false, false, false, false, false, false, false, false, false, false, false, false, false] rfl rfl (take_ofW HT_.out HW_.out (by kernel_rfl)) (fun _ _ _ h => h) (Or.inl ⟨by rfl, ?_⟩) hHeld ?_ ?_
                        rotate_left
                        · rintro w' ⟨s0, s1, s2, s3, s4, s5, s6, s7, s8, s9, s10, s11, s12, s13, s14, s15, s16, s17, s18, s19, s20, s21, s22, s23, s24, s25, s26, s27, s28, s29, s30, s31, s32, s33, s34, s35, s36, s37, s38, s39⟩
                          go_simp
                          with_reducible rfl
                        rotate_left
                        · simp only [Act.put, List.setIfInBounds_toArray, List.set_cons_zero, List.set_cons_succ, i64_w, i32_w]
                          rfl
                        refine one_ (i := 2) (N := some 73) #[true, true, true, true, true, false, false, false, false, false, false, false, false, false, false, false, false, false, false, false, false, false, false, false, false, false, false, false, false, false, false, false, false, false] rfl rfl (one_of HT_.out (by kernel_rfl)) (by decide) (fun K hK => ?_)
                        refine goes_ Try.func14 (by kernel_rfl) rfl #[.agg #[.int .i64 a0_0, .int .i64 a0_1, .int .i64 a0_2, .int .i64 a0_3, .int .i64 a0_4, .int .i64 a0_5, .int .i64 a0_6, .int .i64 a0_7, .int .i64 a0_8, .int .i64 a0_9, .int .i64 a0_10, .int .i64 a0_11], .slice Ao52 x6_2.length co52] (by rfl) rfl rfl (by (try simp only [List.map_toArray, List.map_cons, List.map_nil]); first | done | rfl | (simp only [List.length_drop, List.length_take]; rfl)) ?_
                        with_reducible refine (route_Next.calls k2 a0_0 a0_1 a0_2 a0_3 a0_4 a0_5 a0_6 a0_7 a0_8 a0_9 a0_10 a0_11 _ _ x6_2 t210 _ ?side1 ?side2 A29.out).mono ?_
                        (case side1 => repeat (first | exact (Kd.R_reads' HO_6.out).2.2 | (with_reducible refine Kd.C_alloc ?_ _) | (with_reducible refine Kd.C_drewN ?_ _) | (with_reducible refine Kd.C_drew ?_)))
                        (case side2 => exact (Kd.R_reads' HO_6.out).2.1)
                        rintro e w53 ⟨rfl, hb⟩
                        refine ⟨_, rfl, ?_⟩
                        have n0_ := Aside0.mk (Kd.V_below (by (with_reducible repeat (first | apply Kd.V_alloc | apply Kd.V_drewN | apply Kd.V_drew)); exact HO_1.out) hb)
                        have n1_ := Aside0.mk (Kd.N_below (by (with_reducible repeat (first | apply Kd.N_alloc | apply Kd.N_drewN | apply Kd.N_drew)); exact HO_5.out) hb)
                        have n2_ := Aside0.mk (Kd.R_below (by (with_reducible repeat (first | apply Kd.R_alloc | apply Kd.R_drewN | apply Kd.R_drew)); exact HO_6.out) hb)
                        have n3_ := Aside0.mk (Kd.R_below (by (with_reducible repeat (first | apply Kd.R_alloc | apply Kd.R_drewN | apply Kd.R_drew)); exact HO_7.out) hb)
                        have n4_ := Aside0.mk (Kd.V_below (by (with_reducible repeat (first | apply Kd.V_alloc | apply Kd.V_drewN | apply Kd.V_drew)); exact HO189.out) hb)
                        have n5_ := Aside0.mk (Kd.V_below (by (with_reducible repeat (first | apply Kd.V_alloc | apply Kd.V_drewN | apply Kd.V_drew)); exact HO207.out) hb)
                        have n6_ := Aside0.mk (blk_below (g := gb159) (o := .cells #[.int .i64 a0_0, .int .i64 a0_1, .int .i64 a0_2, .int .i64 a0_3, .int .i64 a0_4, .int .i64 a0_5, .int .i64 a0_6, .int .i64 a0_7, .int .i64 a0_8, .int .i64 a0_9, .int .i64 a0_10, .int .i64 a0_11] 23 (0, 0)) (by (with_reducible repeat (first | refine blk_drewN ?_ _ | refine blk_drew ?_ | refine blk_alloc ?_ _)); exact BK159.out) hb)
                        have n7_ := Aside0.mk (blk_below (g := gb191) (o := .cells #[.int .i64 t174, .int .i64 t175, .int .i64 t176, .int .i64 t177, .int .i64 t178, .int .i64 t179, .bool t180, .bool t181, .int .i64 t182, .int .i64 t183, .int .i64 t184, .int .i64 t185, .int .i64 t186, .slice Ao40 t187.length co40] 38 (0, 0)) (by (with_reducible repeat (first | refine blk_drewN ?_ _ | refine blk_drew ?_ | refine blk_alloc ?_ _)); exact BK191.out) hb)
                        have n8_ := Aside0.mk (blk_below (g := gb209) (o := .cells #[.int .i64 t192, .int .i64 t193, .int .i64 t194, .int .i64 t195, .int .i64 t196, .int .i64 t197, .bool t198, .bool t199, .int .i64 t200, .int .i64 t201, .int .i64 t202, .int .i64 t203, .int .i64 t204, .slice Ao49 t205.length co49] 38 (0, 0)) (by (with_reducible repeat (first | refine blk_drewN ?_ _ | refine blk_drew ?_ | refine blk_alloc ?_ _)); exact BK209.out) hb)
                        have n9_ := Aside0.mk (below_step (by repeat (first | (with_reducible first | exact HB.out | apply below_alloc | apply pw_below_drewN | apply below_drew1 | refine below_set ?_ GE159.out | refine below_set ?_ GE191.out | refine below_set ?_ GE209.out) | exact HB.out)) hb)
                        clear HO_1
                        clear HO_5
                        clear HO_6
                        clear HO_7
                        clear HO189
                        clear HO207
                        clear BK159
                        clear BK191
                        clear BK209
                        clear HB
                        have HO_1 := n0_
                        have HO_5 := n1_
                        have HO_6 := n2_
                        have HO_7 := n3_
                        have HO189 := n4_
                        have HO207 := n5_
                        have BK159 := n6_
                        have BK191 := n7_
                        have BK209 := n8_
                        have HB := n9_
                        clear n0_ n1_ n2_ n3_ n4_ n5_ n6_ n7_ n8_ n9_
                        (try clear hb)
                        (try clear hb2)
                        (try clear hk)
                        (try clear hi)
                        obtain ⟨Ao54, co54, eo54⟩ := Kd.R_slice HO_7.out
                        (first | subst eo54 | (injection eo54 with f1_ f2_ f3_; have f4_ := f1_.symm; have f5_ := f3_.symm; clear f1_ f2_ f3_; subst f4_; subst f5_))
                        refine hK.out _ _ ⟨(blk_cell BK159.out 0).trans rfl, (blk_cell BK159.out 1).trans rfl, (blk_cell BK159.out 2).trans rfl, (blk_cell BK159.out 3).trans rfl, (blk_cell BK159.out 4).trans rfl, (blk_cell BK159.out 5).trans rfl, (blk_cell BK159.out 6).trans rfl, (blk_cell BK159.out 7).trans rfl, (blk_cell BK159.out 8).trans rfl, (blk_cell BK159.out 9).trans rfl, (blk_cell BK159.out 10).trans rfl, (blk_cell BK159.out 11).trans rfl, (blk_cell BK191.out 0).trans rfl, (blk_cell BK191.out 1).trans rfl, (blk_cell BK191.out 2).trans rfl, (blk_cell BK191.out 3).trans rfl, (blk_cell BK191.out 4).trans rfl, (blk_cell BK191.out 5).trans rfl, (blk_cell BK191.out 6).trans rfl, (blk_cell BK191.out 7).trans rfl, (blk_cell BK191.out 8).trans rfl, (blk_cell BK191.out 9).trans rfl, (blk_cell BK191.out 10).trans rfl, (blk_cell BK191.out 11).trans rfl, (blk_cell BK191.out 12).trans rfl, (blk_cell BK191.out 13).trans rfl, (blk_cell BK209.out 0).trans rfl, (blk_cell BK209.out 1).trans rfl, (blk_cell BK209.out 2).trans rfl, (blk_cell BK209.out 3).trans rfl, (blk_cell BK209.out 4).trans rfl, (blk_cell BK209.out 5).trans rfl, (blk_cell BK209.out 6).trans rfl, (blk_cell BK209.out 7).trans rfl, (blk_cell BK209.out 8).trans rfl, (blk_cell BK209.out 9).trans rfl, (blk_cell BK209.out 10).trans rfl, (blk_cell BK209.out 11).trans rfl, (blk_cell BK209.out 12).trans rfl, (blk_cell BK209.out 13).trans rfl⟩ (fun hHeld => ?_)
                        clear hK K
                        refine norm_ (a' := ?_) ?_ ?_
                        rotate_left
                        · show Act.put _ (some 73) _ = _
                          simp only [Act.put, List.setIfInBounds_toArray, List.set_cons_zero, List.set_cons_succ, i64_w, i32_w]
                          rfl
                        refine one_ (i := 5) (N := some 76) #[true, true, true, true, true, true, false, false, false, false, false, false, false, false, false, false, false, false, false, false, false, false, false, false, false, false, false, false, false, false, false, false, false, false] rfl rfl (one_of HT_.out (by kernel_rfl)) (by decide) (fun K hK => ?_)
                        refine goes_ Try.func14 (by kernel_rfl) rfl #[.agg #[.int .i64 a0_0, .int .i64 a0_1, .int .i64 a0_2, .int .i64 a0_3, .int .i64 a0_4, .int .i64 a0_5, .int .i64 a0_6, .int .i64 a0_7, .int .i64 a0_8, .int .i64 a0_9, .int .i64 a0_10, .int .i64 a0_11], .slice Ao54 x7_2.length co54] (by rfl) rfl rfl (by (try simp only [List.map_toArray, List.map_cons, List.map_nil]); first | done | rfl | (simp only [List.length_drop, List.length_take]; rfl)) ?_
                        with_reducible refine (route_Next.calls k2 a0_0 a0_1 a0_2 a0_3 a0_4 a0_5 a0_6 a0_7 a0_8 a0_9 a0_10 a0_11 _ _ x7_2 t211 _ ?side1 ?side2 A30.out).mono ?_
                        (case side1 => repeat (first | exact (Kd.R_reads' HO_7.out).2.2 | (with_reducible refine Kd.C_alloc ?_ _) | (with_reducible refine Kd.C_drewN ?_ _) | (with_reducible refine Kd.C_drew ?_)))
                        (case side2 => exact (Kd.R_reads' HO_7.out).2.1)
                        rintro e w55 ⟨rfl, hb⟩
                        refine ⟨_, rfl, ?_⟩
                        have n0_ := Aside0.mk (Kd.V_below (by (with_reducible repeat (first | apply Kd.V_alloc | apply Kd.V_drewN | apply Kd.V_drew)); exact HO_1.out) hb)
                        have n1_ := Aside0.mk (Kd.N_below (by (with_reducible repeat (first | apply Kd.N_alloc | apply Kd.N_drewN | apply Kd.N_drew)); exact HO_5.out) hb)
                        have n2_ := Aside0.mk (Kd.R_below (by (with_reducible repeat (first | apply Kd.R_alloc | apply Kd.R_drewN | apply Kd.R_drew)); exact HO_6.out) hb)
                        have n3_ := Aside0.mk (Kd.R_below (by (with_reducible repeat (first | apply Kd.R_alloc | apply Kd.R_drewN | apply Kd.R_drew)); exact HO_7.out) hb)
                        have n4_ := Aside0.mk (Kd.V_below (by (with_reducible repeat (first | apply Kd.V_alloc | apply Kd.V_drewN | apply Kd.V_drew)); exact HO189.out) hb)
                        have n5_ := Aside0.mk (Kd.V_below (by (with_reducible repeat (first | apply Kd.V_alloc | apply Kd.V_drewN | apply Kd.V_drew)); exact HO207.out) hb)
                        have n6_ := Aside0.mk (blk_below (g := gb159) (o := .cells #[.int .i64 a0_0, .int .i64 a0_1, .int .i64 a0_2, .int .i64 a0_3, .int .i64 a0_4, .int .i64 a0_5, .int .i64 a0_6, .int .i64 a0_7, .int .i64 a0_8, .int .i64 a0_9, .int .i64 a0_10, .int .i64 a0_11] 23 (0, 0)) (by (with_reducible repeat (first | refine blk_drewN ?_ _ | refine blk_drew ?_ | refine blk_alloc ?_ _)); exact BK159.out) hb)
                        have n7_ := Aside0.mk (blk_below (g := gb191) (o := .cells #[.int .i64 t174, .int .i64 t175, .int .i64 t176, .int .i64 t177, .int .i64 t178, .int .i64 t179, .bool t180, .bool t181, .int .i64 t182, .int .i64 t183, .int .i64 t184, .int .i64 t185, .int .i64 t186, .slice Ao40 t187.length co40] 38 (0, 0)) (by (with_reducible repeat (first | refine blk_drewN ?_ _ | refine blk_drew ?_ | refine blk_alloc ?_ _)); exact BK191.out) hb)
                        have n8_ := Aside0.mk (blk_below (g := gb209) (o := .cells #[.int .i64 t192, .int .i64 t193, .int .i64 t194, .int .i64 t195, .int .i64 t196, .int .i64 t197, .bool t198, .bool t199, .int .i64 t200, .int .i64 t201, .int .i64 t202, .int .i64 t203, .int .i64 t204, .slice Ao49 t205.length co49] 38 (0, 0)) (by (with_reducible repeat (first | refine blk_drewN ?_ _ | refine blk_drew ?_ | refine blk_alloc ?_ _)); exact BK209.out) hb)
                        have n9_ := Aside0.mk (below_step (by repeat (first | (with_reducible first | exact HB.out | apply below_alloc | apply pw_below_drewN | apply below_drew1 | refine below_set ?_ GE159.out | refine below_set ?_ GE191.out | refine below_set ?_ GE209.out) | exact HB.out)) hb)
                        clear HO_1
                        clear HO_5
                        clear HO_6
                        clear HO_7
                        clear HO189
                        clear HO207
                        clear BK159
                        clear BK191
                        clear BK209
                        clear HB
                        have HO_1 := n0_
                        have HO_5 := n1_
                        have HO_6 := n2_
                        have HO_7 := n3_
                        have HO189 := n4_
                        have HO207 := n5_
                        have BK159 := n6_
                        have BK191 := n7_
                        have BK209 := n8_
                        have HB := n9_
                        clear n0_ n1_ n2_ n3_ n4_ n5_ n6_ n7_ n8_ n9_
                        (try clear hb)
                        (try clear hb2)
                        (try clear hk)
                        (try clear hi)
                        refine hK.out _ _ ⟨(blk_cell BK159.out 0).trans rfl, (blk_cell BK159.out 1).trans rfl, (blk_cell BK159.out 2).trans rfl, (blk_cell BK159.out 3).trans rfl, (blk_cell BK159.out 4).trans rfl, (blk_cell BK159.out 5).trans rfl, (blk_cell BK159.out 6).trans rfl, (blk_cell BK159.out 7).trans rfl, (blk_cell BK159.out 8).trans rfl, (blk_cell BK159.out 9).trans rfl, (blk_cell BK159.out 10).trans rfl, (blk_cell BK159.out 11).trans rfl, (blk_cell BK191.out 0).trans rfl, (blk_cell BK191.out 1).trans rfl, (blk_cell BK191.out 2).trans rfl, (blk_cell BK191.out 3).trans rfl, (blk_cell BK191.out 4).trans rfl, (blk_cell BK191.out 5).trans rfl, (blk_cell BK191.out 6).trans rfl, (blk_cell BK191.out 7).trans rfl, (blk_cell BK191.out 8).trans rfl, (blk_cell BK191.out 9).trans rfl, (blk_cell BK191.out 10).trans rfl, (blk_cell BK191.out 11).trans rfl, (blk_cell BK191.out 12).trans rfl, (blk_cell BK191.out 13).trans rfl, (blk_cell BK209.out 0).trans rfl, (blk_cell BK209.out 1).trans rfl, (blk_cell BK209.out 2).trans rfl, (blk_cell BK209.out 3).trans rfl, (blk_cell BK209.out 4).trans rfl, (blk_cell BK209.out 5).trans rfl, (blk_cell BK209.out 6).trans rfl, (blk_cell BK209.out 7).trans rfl, (blk_cell BK209.out 8).trans rfl, (blk_cell BK209.out 9).trans rfl, (blk_cell BK209.out 10).trans rfl, (blk_cell BK209.out 11).trans rfl, (blk_cell BK209.out 12).trans rfl, (blk_cell BK209.out 13).trans rfl⟩ (fun hHeld => ?_)
                        clear hK K
                        refine norm_ (a' := ?_) ?_ ?_
                        rotate_left
                        · show Act.put _ (some 76) _ = _
                          simp only [Act.put, List.setIfInBounds_toArray, List.set_cons_zero, List.set_cons_succ, i64_w, i32_w]
                          rfl
                        refine pure_ (i := 6) (N := some 77) (v := ?_) (a' := ?_) #[true, true, true, true, true, true, true, false, false, false, false, false, false, false, false, false, false, false, false, false, false, false, false, false, false, false, false, false, false, false, false, false, false, false] rfl rfl (any_of HT_.out (by kernel_rfl)) (fun _ _ _ h => h) (Or.inl ⟨by rfl, ?_⟩) ?_ ?_
                        rotate_left
                        · intro w'
                          go_simp
                          with_reducible rfl
                        rotate_left
                        · simp only [Act.put, List.setIfInBounds_toArray, List.set_cons_zero, List.set_cons_succ, i64_w, i32_w]
                          rfl
                        refine pure_ (i := 7) (N := some 78) (v := ?_) (a' := ?_) #[true, true, true, true, true, true, true, true, false, false, false, false, false, false, false, false, false, false, false, false, false, false, false, false, false, false, false, false, false, false, false, false, false, false] rfl rfl (any_of HT_.out (by kernel_rfl)) (fun _ _ _ h => h) (Or.inl ⟨by rfl, ?_⟩) ?_ ?_
                        rotate_left
                        · intro w'
                          go_simp
                          with_reducible rfl
                        rotate_left
                        · simp only [Act.put, List.setIfInBounds_toArray, List.set_cons_zero, List.set_cons_succ, i64_w, i32_w]
                          rfl
                        refine pure_ (i := 8) (N := some 79) (v := ?_) (a' := ?_) #[true, true, true, true, true, true, true, true, true, false, false, false, false, false, false, false, false, false, false, false, false, false, false, false, false, false, false, false, false, false, false, false, false, false] rfl rfl (any_of HT_.out (by kernel_rfl)) (fun _ _ _ h => h) (Or.inl ⟨by rfl, ?_⟩) ?_ ?_
                        rotate_left
                        · intro w'
                          go_simp
                          with_reducible rfl
                        rotate_left
                        · simp only [Act.put, List.setIfInBounds_toArray, List.set_cons_zero, List.set_cons_succ, i64_w, i32_w]
                          rfl
                        refine pure_ (i := 9) (N := some 80) (v := ?_) (a' := ?_) #[true, true, true, true, true, true, true, true, true, true, false, false, false, false, false, false, false, false, false, false, false, false, false, false, false, false, false, false, false, false, false, false, false, false] rfl rfl (any_of HT_.out (by kernel_rfl)) (fun _ _ _ h => h) (Or.inl ⟨by rfl, ?_⟩) ?_ ?_
                        rotate_left
                        · intro w'
                          go_simp
                          with_reducible rfl
                        rotate_left
                        · simp only [Act.put, List.setIfInBounds_toArray, List.set_cons_zero, List.set_cons_succ, i64_w, i32_w]
                          rfl
                        refine pure_ (i := 10) (N := some 81) (v := ?_) (a' := ?_) #[true, true, true, true, true, true, true, true, true, true, true, false, false, false, false, false, false, false, false, false, false, false, false, false, false, false, false, false, false, false, false, false, false, false] rfl rfl (any_of HT_.out (by kernel_rfl)) (fun _ _ _ h => h) (Or.inl ⟨by rfl, ?_⟩) ?_ ?_
                        rotate_left
                        · intro w'
                          go_simp
                          with_reducible rfl
                        rotate_left
                        · simp only [Act.put, List.setIfInBounds_toArray, List.set_cons_zero, List.set_cons_succ, i64_w, i32_w]
                          rfl
                        refine pure_ (i := 11) (N := some 82) (v := ?_) (a' := ?_) #[true, true, true, true, true, true, true, true, true, true, true, true, false, false, false, false, false, false, false, false, false, false, false, false, false, false, false, false, false, false, false, false, false, false] rfl rfl (any_of HT_.out (by kernel_rfl)) (fun _ _ _ h => h) (Or.inl ⟨by rfl, ?_⟩) ?_ ?_
                        rotate_left
                        · intro w'
                          go_simp
                          with_reducible rfl
                        rotate_left
                        · simp only [Act.put, List.setIfInBounds_toArray, List.set_cons_zero, List.set_cons_succ, i64_w, i32_w]
                          rfl
                        refine pure_ (i := 12) (N := some 83) (v := ?_) (a' := ?_) #[true, true, true, true, true, true, true, true, true, true, true, true, true, false, false, false, false, false, false, false, false, false, false, false, false, false, false, false, false, false, false, false, false, false] rfl rfl (any_of HT_.out (by kernel_rfl)) (fun _ _ _ h => h) (Or.inl ⟨by rfl, ?_⟩) ?_ ?_
                        rotate_left
                        · intro w'
                          go_simp
                          with_reducible rfl
                        rotate_left
                        · simp only [Act.put, List.setIfInBounds_toArray, List.set_cons_zero, List.set_cons_succ, i64_w, i32_w]
                          rfl
                        refine pure_ (i := 13) (N := some 84) (v := ?_) (a' := ?_) #[true, true, true, true, true, true, true, true, true, true, true, true, true, true, false, false, false, false, false, false, false, false, false, false, false, false, false, false, false, false, false, false, false, false] rfl rfl (any_of HT_.out (by kernel_rfl)) (fun _ _ _ h => h) (Or.inl ⟨by rfl, ?_⟩) ?_ ?_
                        rotate_left
                        · intro w'
                          go_simp
                          with_reducible rfl
                        rotate_left
                        · simp only [Act.put, List.setIfInBounds_toArray, List.set_cons_zero, List.set_cons_succ, i64_w, i32_w]
                          rfl
                        refine pure_ (i := 15) (N := some 86) (v := ?_) (a' := ?_) #[true, true, true, true, true, true, true, true, true, true, true, true, true, true, false, true, false, false, false, false, false, false, false, false, false, false, false, false, false, false, false, false, false, false] rfl rfl (any_of HT_.out (by kernel_rfl)) (fun _ _ _ h => h) (Or.inl ⟨by rfl, ?_⟩) ?_ ?_
                        rotate_left
                        · intro w'
                          go_simp
                          with_reducible rfl
                        rotate_left
                        · simp only [Act.put, List.setIfInBounds_toArray, List.set_cons_zero, List.set_cons_succ, i64_w, i32_w]
                          rfl
                        refine take_ (i := 14) (N := some 85) (v := ?_) (a' := ?_) #[true, true, true, true, true, true, true, true, true, true, true, true, true, true, true, true, false, false, false, false, false, false, false, false, false, false, false, false, false, false, false, false, false, false] rfl rfl (take_ofW HT_.out HW_.out (by kernel_rfl)) (fun _ _ _ h => h) (Or.inl ⟨by rfl, ?_⟩) hHeld ?_ ?_
                        rotate_left
                        · rintro w' ⟨s0, s1, s2, s3, s4, s5, s6, s7, s8, s9, s10, s11, s12, s13, s14, s15, s16, s17, s18, s19, s20, s21, s22, s23, s24, s25, s26, s27, s28, s29, s30, s31, s32, s33, s34, s35, s36, s37, s38, s39⟩
                          go_simp
                          with_reducible rfl
                        rotate_left
                        · simp only [Act.put, List.setIfInBounds_toArray, List.set_cons_zero, List.set_cons_succ, i64_w, i32_w]
                          rfl
                        refine take_ (i := 16) (N := some 87) (v := ?_) (a' := ?_) #[true, true, true, true, true, true, true, true, true, true, true, true, true, true, true, true, true, false, false, false, false, false, false, false, false, false, false, false, false, false, false, false, false, false] rfl rfl (take_ofW HT_.out HW_.out (by kernel_rfl)) (fun _ _ _ h => h) (Or.inl ⟨by rfl, ?_⟩) hHeld ?_ ?_
                        rotate_left
                        · rintro w' ⟨s0, s1, s2, s3, s4, s5, s6, s7, s8, s9, s10, s11, s12, s13, s14, s15, s16, s17, s18, s19, s20, s21, s22, s23, s24, s25, s26, s27, s28, s29, s30, s31, s32, s33, s34, s35, s36, s37, s38, s39⟩
                          go_simp
                          with_reducible rfl
                        rotate_left
                        · simp only [Act.put, List.setIfInBounds_toArray, List.set_cons_zero, List.set_cons_succ, i64_w, i32_w]
                          rfl
                        refine pure_ (i := 17) (N := some 88) (v := ?_) (a' := ?_) #[true, true, true, true, true, true, true, true, true, true, true, true, true, true, true, true, true, true, false, false, false, false, false, false, false, false, false, false, false, false, false, false, false, false] rfl rfl (any_of HT_.out (by kernel_rfl)) (fun _ _ _ h => h) (Or.inl ⟨by rfl, ?_⟩) ?_ ?_
                        rotate_left
                        · intro w'
                          go_simp
                          with_reducible rfl
                        rotate_left
                        · simp only [Act.put, List.setIfInBounds_toArray, List.set_cons_zero, List.set_cons_succ, i64_w, i32_w]
                          rfl
                        refine pure_ (i := 18) (N := some 89) (v := ?_) (a' := ?_) #[true, true, true, true, true, true, true, true, true, true, true, true, true, true, true, true, true, true, true, false, false, false, false, false, false, false, false, false, false, false, false, false, false, false] rfl rfl (any_of HT_.out (by kernel_rfl)) (fun _ _ _ h => h) (Or.inl ⟨by rfl, ?_⟩) ?_ ?_
                        rotate_left
                        · intro w'
                          go_simp
                          with_reducible rfl
                        rotate_left
                        · simp only [Act.put, List.setIfInBounds_toArray, List.set_cons_zero, List.set_cons_succ, i64_w, i32_w]
                          rfl
                        refine pure_ (i := 19) (N := some 90) (v := ?_) (a' := ?_) #[true, true, true, true, true, true, true, true, true, true, true, true, true, true, true, true, true, true, true, true, false, false, false, false, false, false, false, false, false, false, false, false, false, false] rfl rfl (any_of HT_.out (by kernel_rfl)) (fun _ _ _ h => h) (Or.inl ⟨by rfl, ?_⟩) ?_ ?_
                        rotate_left
                        · intro w'
                          go_simp
                          with_reducible rfl
                        rotate_left
                        · simp only [Act.put, List.setIfInBounds_toArray, List.set_cons_zero, List.set_cons_succ, i64_w, i32_w]
                          rfl
                        refine pure_ (i := 20) (N := some 91) (v := ?_) (a' := ?_) #[true, true, true, true, true, true, true, true, true, true, true, true, true, true, true, true, true, true, true, true, true, false, false, false, false, false, false, false, false, false, false, false, false, false] rfl rfl (any_of HT_.out (by kernel_rfl)) (fun _ _ _ h => h) (Or.inl ⟨by rfl, ?_⟩) ?_ ?_
                        rotate_left
                        · intro w'
                          go_simp
                          with_reducible rfl
                        rotate_left
                        · simp only [Act.put, List.setIfInBounds_toArray, List.set_cons_zero, List.set_cons_succ, i64_w, i32_w]
                          rfl
                        refine pure_ (i := 22) (N := some 93) (v := ?_) (a' := ?_) #[true, true, true, true, true, true, true, true, true, true, true, true, true, true, true, true, true, true, true, true, true, false, true, false, false, false, false, false, false, false, false, false, false, false] rfl rfl (any_of HT_.out (by kernel_rfl)) (fun _ _ _ h => h) (Or.inl ⟨by rfl, ?_⟩) ?_ ?_
                        rotate_left
                        · intro w'
                          go_simp
                          with_reducible rfl
                        rotate_left
                        · simp only [Act.put, List.setIfInBounds_toArray, List.set_cons_zero, List.set_cons_succ, i64_w, i32_w]
                          rfl
                        refine take_ (i := 21) (N := some 92) (v := ?_) (a' := ?_) #[true, true, true, true, true, true, true, true, true, true, true, true, true, true, true, true, true, true, true, true, true, true, true, false, false, false, false, false, false, false, false, false, false, false] rfl rfl (take_ofW HT_.out HW_.out (by kernel_rfl)) (fun _ _ _ h => h) (Or.inl ⟨by rfl, ?_⟩) hHeld ?_ ?_
                        rotate_left
                        · rintro w' ⟨s0, s1, s2, s3, s4, s5, s6, s7, s8, s9, s10, s11, s12, s13, s14, s15, s16, s17, s18, s19, s20, s21, s22, s23, s24, s25, s26, s27, s28, s29, s30, s31, s32, s33, s34, s35, s36, s37, s38, s39⟩
                          go_simp
                          with_reducible rfl
                        rotate_left
                        · simp only [Act.put, List.setIfInBounds_toArray, List.set_cons_zero, List.set_cons_succ, i64_w, i32_w]
                          rfl
                        refine take_ (i := 23) (N := some 94) (v := ?_) (a' := ?_) #[true, true, true, true, true, true, true, true, true, true, true, true, true, true, true, true, true, true, true, true, true, true, true, true, false, false, false, false, false, false, false, false, false, false] rfl rfl (take_ofW HT_.out HW_.out (by kernel_rfl)) (fun _ _ _ h => h) (Or.inl ⟨by rfl, ?_⟩) hHeld ?_ ?_
                        rotate_left
                        · rintro w' ⟨s0, s1, s2, s3, s4, s5, s6, s7, s8, s9, s10, s11, s12, s13, s14, s15, s16, s17, s18, s19, s20, s21, s22, s23, s24, s25, s26, s27, s28, s29, s30, s31, s32, s33, s34, s35, s36, s37, s38, s39⟩
                          go_simp
                          with_reducible rfl
                        rotate_left
                        · simp only [Act.put, List.setIfInBounds_toArray, List.set_cons_zero, List.set_cons_succ, i64_w, i32_w]
                          rfl
                        refine pure_ (i := 24) (N := some 95) (v := ?_) (a' := ?_) #[true, true, true, true, true, true, true, true, true, true, true, true, true, true, true, true, true, true, true, true, true, true, true, true, true, false, false, false, false, false, false, false, false, false] rfl rfl (any_of HT_.out (by kernel_rfl)) (fun _ _ _ h => h) (Or.inl ⟨by rfl, ?_⟩) ?_ ?_
                        rotate_left
                        · intro w'
                          go_simp
                          with_reducible rfl
                        rotate_left
                        · simp only [Act.put, List.setIfInBounds_toArray, List.set_cons_zero, List.set_cons_succ, i64_w, i32_w]
                          rfl
                        refine pure_ (i := 25) (N := some 96) (v := ?_) (a' := ?_) #[true, true, true, true, true, true, true, true, true, true, true, true, true, true, true, true, true, true, true, true, true, true, true, true, true, true, false, false, false, false, false, false, false, false] rfl rfl (any_of HT_.out (by kernel_rfl)) (fun _ _ _ h => h) (Or.inl ⟨by rfl, ?_⟩) ?_ ?_
                        rotate_left
                        · intro w'
                          go_simp
                          with_reducible rfl
                        rotate_left
                        · simp only [Act.put, List.setIfInBounds_toArray, List.set_cons_zero, List.set_cons_succ, i64_w, i32_w]
                          rfl
                        refine pure_ (i := 26) (N := some 97) (v := ?_) (a' := ?_) #[true, true, true, true, true, true, true, true, true, true, true, true, true, true, true, true, true, true, true, true, true, true, true, true, true, true, true, false, false, false, false, false, false, false] rfl rfl (any_of HT_.out (by kernel_rfl)) (fun _ _ _ h => h) (Or.inl ⟨by rfl, ?_⟩) ?_ ?_
                        rotate_left
                        · intro w'
                          go_simp
                          with_reducible rfl
                        rotate_left
                        · simp only [Act.put, List.setIfInBounds_toArray, List.set_cons_zero, List.set_cons_succ, i64_w, i32_w]
                          rfl
                        refine pure_ (i := 27) (N := some 98) (v := ?_) (a' := ?_) #[true, true, true, true, true, true, true, true, true, true, true, true, true, true, true, true, true, true, true, true, true, true, true, true, true, true, true, true, false, false, false, false, false, false] rfl rfl (any_of HT_.out (by kernel_rfl)) (fun _ _ _ h => h) (Or.inl ⟨by rfl, ?_⟩) ?_ ?_
                        rotate_left
                        · intro w'
                          go_simp
                          with_reducible rfl
                        rotate_left
                        · simp only [Act.put, List.setIfInBounds_toArray, List.set_cons_zero, List.set_cons_succ, i64_w, i32_w]
                          rfl
                        refine pure_ (i := 29) (N := some 100) (v := ?_) (a' := ?_) #[true, true, true, true, true, true, true, true, true, true, true, true, true, true, true, true, true, true, true, true, true, true, true, true, true, true, true, true, false, true, false, false, false, false] rfl rfl (any_of HT_.out (by kernel_rfl)) (fun _ _ _ h => h) (Or.inl ⟨by rfl, ?_⟩) ?_ ?_
                        rotate_left
                        · intro w'
                          go_simp
                          with_reducible rfl
                        rotate_left
                        · simp only [Act.put, List.setIfInBounds_toArray, List.set_cons_zero, List.set_cons_succ, i64_w, i32_w]
                          rfl
                        refine take_ (i := 28) (N := some 99) (v := ?_) (a' := ?_) #[true, true, true, true, true, true, true, true, true, true, true, true, true, true, true, true, true, true, true, true, true, true, true, true, true, true, true, true, true, true, false, false, false, false] rfl rfl (take_ofW HT_.out HW_.out (by kernel_rfl)) (fun _ _ _ h => h) (Or.inl ⟨by rfl, ?_⟩) hHeld ?_ ?_
                        rotate_left
                        · rintro w' ⟨s0, s1, s2, s3, s4, s5, s6, s7, s8, s9, s10, s11, s12, s13, s14, s15, s16, s17, s18, s19, s20, s21, s22, s23, s24, s25, s26, s27, s28, s29, s30, s31, s32, s33, s34, s35, s36, s37, s38, s39⟩
                          go_simp
                          with_reducible rfl
                        rotate_left
                        · simp only [Act.put, List.setIfInBounds_toArray, List.set_cons_zero, List.set_cons_succ, i64_w, i32_w]
                          rfl
                        refine take_ (i := 30) (N := some 101) (v := ?_) (a' := ?_) #[true, true, true, true, true, true, true, true, true, true, true, true, true, true, true, true, true, true, true, true, true, true, true, true, true, true, true, true, true, true, true, false, false, false] rfl rfl (take_ofW HT_.out HW_.out (by kernel_rfl)) (fun _ _ _ h => h) (Or.inl ⟨by rfl, ?_⟩) hHeld ?_ ?_
                        rotate_left
                        · rintro w' ⟨s0, s1, s2, s3, s4, s5, s6, s7, s8, s9, s10, s11, s12, s13, s14, s15, s16, s17, s18, s19, s20, s21, s22, s23, s24, s25, s26, s27, s28, s29, s30, s31, s32, s33, s34, s35, s36, s37, s38, s39⟩
                          go_simp
                          with_reducible rfl
                        rotate_left
                        · simp only [Act.put, List.setIfInBounds_toArray, List.set_cons_zero, List.set_cons_succ, i64_w, i32_w]
                          rfl
                        refine pure_ (i := 31) (N := some 102) (v := ?_) (a' := ?_) #[true, true, true, true, true, true, true, true, true, true, true, true, true, true, true, true, true, true, true, true, true, true, true, true, true, true, true, true, true, true, true, true, false, false] rfl rfl (any_of HT_.out (by kernel_rfl)) (fun _ _ _ h => h) (Or.inl ⟨by rfl, ?_⟩) ?_ ?_
                        rotate_left
                        · intro w'
                          go_simp
                          with_reducible rfl
                        rotate_left
                        · simp only [Act.put, List.setIfInBounds_toArray, List.set_cons_zero, List.set_cons_succ, i64_w, i32_w]
                          rfl
                        refine pure_ (i := 32) (N := some 103) (v := ?_) (a' := ?_) #[true, true, true, true, true, true, true, true, true, true, true, true, true, true, true, true, true, true, true, true, true, true, true, true, true, true, true, true, true, true, true, true, true, false] rfl rfl (any_of HT_.out (by kernel_rfl)) (fun _ _ _ h => h) (Or.inl ⟨by rfl, ?_⟩) ?_ ?_
                        rotate_left
                        · intro w'
                          go_simp
                          with_reducible rfl
                        rotate_left
                        · simp only [Act.put, List.setIfInBounds_toArray, List.set_cons_zero, List.set_cons_succ, i64_w, i32_w]
                          rfl
                        refine pure_ (i := 33) (N := some 4) (v := ?_) (a' := ?_) #[true, true, true, true, true, true, true, true, true, true, true, true, true, true, true, true, true, true, true, true, true, true, true, true, true, true, true, true, true, true, true, true, true, true] rfl rfl (any_of HT_.out (by kernel_rfl)) (fun _ _ _ h => h) (Or.inl ⟨by rfl, ?_⟩) ?_ ?_
                        rotate_left
                        · intro w'
                          go_simp
                          with_reducible rfl
                        rotate_left
                        · simp only [Act.put, List.setIfInBounds_toArray, List.set_cons_zero, List.set_cons_succ, i64_w, i32_w]
                          rfl
                        refine done_ (done_of HT_.out (by kernel_rfl)) ?_
                        try go_wp2
                        go_ret
                        exact ⟨by first | rfl | (simp [errW_none, errW_some] <;> rfl) | (simp [*, errW_none, errW_some] <;> rfl), by repeat (first | (with_reducible first | exact HB.out | apply below_alloc | apply pw_below_drewN | apply below_drew1 | refine below_set ?_ GE159.out | refine below_set ?_ GE191.out | refine below_set ?_ GE209.out) | exact HB.out)⟩
                      · rw [if_neg c34] at H
                        exact absurd H (by simp)
                    · rw [if_neg c33] at H
                      exact absurd H (by simp)
                  · rw [if_neg c32] at H
                    exact absurd H (by simp)
                · rw [if_neg c31] at H
                  exact absurd H (by simp)
  · replace c4 := Bool.eq_false_iff.mpr c4
    subst c4
    exact absurd H (by rw [if_neg (show ¬ (false = true) by decide)]; simp)
end Go.Proofs.Ytaiggeogiolbnaa.K
