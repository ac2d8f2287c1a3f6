-- Laid by a program of this session out of the translation (over the print of the kit); Lean checks it.
import Derived.Test.YtaiggeogiolbnaaK0
import Derived.Test.YtaiggeogiolbnaaK1
import Derived.Test.YtaiggeogiolbnaaK2
import Derived.Test.YtaiggeogiolbnaaK4
import Derived.Test.YtaiggeogiolbnaaK5
namespace Go.Proofs.Ytaiggeogiolbnaa.K
open Go.RowKit Go.Proofs.YtaiggeogiolbnaaW.PrintWords Go.Proofs.YtaiggeogiolbnaaW.PrintLast Go.Proofs.YtaiggeogiolbnaaW.PrintMore
attribute [local go_sem] max2_int min2_int max_two min_two max_three min_three max_four min_four   -- for this text's walks alone
set_option linter.unusedVariables false
set_option linter.unusedSimpArgs false

set_option maxHeartbeats 8000000 in
set_option maxRecDepth 100000 in
theorem clepsydralaw15_RouteSettles.calls (k : Nat) (a0_0 : Int) (a0_1 : Int) (a0_2 : Int) (a0_3 : Int) (a0_4 : Int) (a0_5 : Int) (a0_6 : Int) (a0_7 : Int) (a0_8 : Int) (a0_9 : Int) (a0_10 : Int) (a0_11 : Int) (A1 : Option Addr) (c1 : Nat) (l1 : List Int) (A2 : Option Addr) (c2 : Nat) (l2 : List Bool) (A3 : Option Addr) (c3 : Nat) (l3 : List Int) (r : Bool) (w : World) (hr1 : Kd.C (Kd.int .i64) w A1 l1.length l1) (hc1 : l1.length ≤ c1) (hr2 : Kd.C Kd.bool w A2 l2.length l2) (hc2 : l2.length ≤ c2) (hr3 : Kd.C (Kd.int .i64) w A3 l3.length l3) (hc3 : l3.length ≤ c3) (h : clepsydralaw15_RouteSettles.f k a0_0 a0_1 a0_2 a0_3 a0_4 a0_5 a0_6 a0_7 a0_8 a0_9 a0_10 a0_11 l1 l2 l3 = some r) :
    Calls Try.prog 6 #[.agg #[.int .i64 a0_0, .int .i64 a0_1, .int .i64 a0_2, .int .i64 a0_3, .int .i64 a0_4, .int .i64 a0_5, .int .i64 a0_6, .int .i64 a0_7, .int .i64 a0_8, .int .i64 a0_9, .int .i64 a0_10, .int .i64 a0_11], .slice A1 l1.length c1, .slice A2 l2.length c2, .slice A3 l3.length c3] w fun e w' => e = .returned (.bool r) ∧ Below w.heap.size w w' := by
  have hu23 := Try.underlying23
  have HR1 := Aside0.mk hr1
  have HC1 := Aside0.mk hc1
  clear hr1 hc1
  have HR2 := Aside0.mk hr2
  have HC2 := Aside0.mk hc2
  clear hr2 hc2
  have HR3 := Aside0.mk hr3
  have HC3 := Aside0.mk hc3
  clear hr3 hc3
  have HB := Aside0.mk (Below.refl w.heap.size w)
  have H : ((clepsydralaw15_alive.f k).bind fun t224 => (if t224 = true then ((clepsydralaw15_odd.f a0_0 a0_1 a0_2 a0_3 a0_4 a0_5 a0_6 a0_7 a0_8 a0_9 a0_10 a0_11).bind fun t225 => (if t225 = true then (clepsydralaw15_RouteSettles.j0 k l1 l2 l3 (l1.length : Int) true a0_0 a0_1 a0_2 a0_3 a0_4 a0_5 a0_6 a0_7 a0_8 a0_9 a0_10 a0_11) else (if (l1.length : Int) > 12 then (clepsydralaw15_RouteSettles.j0 k l1 l2 l3 (l1.length : Int) true a0_0 a0_1 a0_2 a0_3 a0_4 a0_5 a0_6 a0_7 a0_8 a0_9 a0_10 a0_11) else (if (l2.length : Int) = (l1.length : Int) then (clepsydralaw15_RouteSettles.j0 k l1 l2 l3 (l1.length : Int) ((l3.length : Int) != (l1.length : Int)) a0_0 a0_1 a0_2 a0_3 a0_4 a0_5 a0_6 a0_7 a0_8 a0_9 a0_10 a0_11) else (clepsydralaw15_RouteSettles.j0 k l1 l2 l3 (l1.length : Int) true a0_0 a0_1 a0_2 a0_3 a0_4 a0_5 a0_6 a0_7 a0_8 a0_9 a0_10 a0_11))))) else (some false))) = some r := h
  clear h
  replace H := Option.bind_eq_some_iff.mp H
  obtain ⟨t224, A50, H⟩ := H
  replace H : (if t224 = true then ((clepsydralaw15_odd.f a0_0 a0_1 a0_2 a0_3 a0_4 a0_5 a0_6 a0_7 a0_8 a0_9 a0_10 a0_11).bind fun t225 => (if t225 = true then (clepsydralaw15_RouteSettles.j0 k l1 l2 l3 (l1.length : Int) true a0_0 a0_1 a0_2 a0_3 a0_4 a0_5 a0_6 a0_7 a0_8 a0_9 a0_10 a0_11) else (if (l1.length : Int) > 12 then (clepsydralaw15_RouteSettles.j0 k l1 l2 l3 (l1.length : Int) true a0_0 a0_1 a0_2 a0_3 a0_4 a0_5 a0_6 a0_7 a0_8 a0_9 a0_10 a0_11) else (if (l2.length : Int) = (l1.length : Int) then (clepsydralaw15_RouteSettles.j0 k l1 l2 l3 (l1.length : Int) ((l3.length : Int) != (l1.length : Int)) a0_0 a0_1 a0_2 a0_3 a0_4 a0_5 a0_6 a0_7 a0_8 a0_9 a0_10 a0_11) else (clepsydralaw15_RouteSettles.j0 k l1 l2 l3 (l1.length : Int) true a0_0 a0_1 a0_2 a0_3 a0_4 a0_5 a0_6 a0_7 a0_8 a0_9 a0_10 a0_11))))) else (some false)) = some r := H
  have A5 := Aside0.mk A50
  clear A50
  by_cases c6 : t224 = true
  · subst c6
    have H1 : ((clepsydralaw15_odd.f a0_0 a0_1 a0_2 a0_3 a0_4 a0_5 a0_6 a0_7 a0_8 a0_9 a0_10 a0_11).bind fun t225 => (if t225 = true then (clepsydralaw15_RouteSettles.j0 k l1 l2 l3 (l1.length : Int) true a0_0 a0_1 a0_2 a0_3 a0_4 a0_5 a0_6 a0_7 a0_8 a0_9 a0_10 a0_11) else (if (l1.length : Int) > 12 then (clepsydralaw15_RouteSettles.j0 k l1 l2 l3 (l1.length : Int) true a0_0 a0_1 a0_2 a0_3 a0_4 a0_5 a0_6 a0_7 a0_8 a0_9 a0_10 a0_11) else (if (l2.length : Int) = (l1.length : Int) then (clepsydralaw15_RouteSettles.j0 k l1 l2 l3 (l1.length : Int) ((l3.length : Int) != (l1.length : Int)) a0_0 a0_1 a0_2 a0_3 a0_4 a0_5 a0_6 a0_7 a0_8 a0_9 a0_10 a0_11) else (clepsydralaw15_RouteSettles.j0 k l1 l2 l3 (l1.length : Int) true a0_0 a0_1 a0_2 a0_3 a0_4 a0_5 a0_6 a0_7 a0_8 a0_9 a0_10 a0_11))))) = some r := by rw [if_pos rfl] at H; exact H
    clear H
    have H := H1
    clear H1
    have HC7 := Aside0.mk H
    clear H
    go_enter Try.func6, Try.ntmps6
    go_upto_region 4 with (first | ((with_reducible refine gate_dst (N := 4) rfl ?_); (try (refine gate_guard (by rfl) ?_; dsimp only)); refine box_event ?hg (N := 4) ?hd (cs := #[.int .i64 a0_0, .int .i64 a0_1, .int .i64 a0_2, .int .i64 a0_3, .int .i64 a0_4, .int .i64 a0_5, .int .i64 a0_6, .int .i64 a0_7, .int .i64 a0_8, .int .i64 a0_9, .int .i64 a0_10, .int .i64 a0_11]) (t := 23) ?hr ?_; (case hd => rfl); (case hg => rfl); (case hr => first | (go_simp; done) | (go_simp; rfl)); intro gb223 hg w8 hbox hb; have n0_ := Aside0.mk (below_step (by repeat (first | (with_reducible first | exact HB.out | apply below_alloc | apply pw_below_drewN | apply below_drew1) | exact HB.out)) hb); have n1_ := Aside0.mk (hbox); have n2_ := Aside0.mk ((by rw [hg]; exact (below_size (by repeat (first | (with_reducible first | exact HB.out | apply below_alloc | apply pw_below_drewN | apply below_drew1) | exact HB.out))) : w.heap.size ≤ gb223)); have n3_ := Aside0.mk ((by rw [hg]; exact (below_size (by repeat (first | (with_reducible first | exact HB.out | apply below_alloc | apply pw_below_drewN | apply below_drew1) | exact HB.out))) : w.heap.size ≤ gb223)); clear HB; have HB := n0_; have BK223 := n1_; have GW223 := n2_; have GE223 := n3_; clear n0_ n1_ n2_ n3_; clear hb hbox hg) | ((with_reducible refine gate_callee (f := 12) rfl ?_); refine goesL_ (some 21) rfl rfl Try.func12 (by kernel_rfl) rfl #[] rfl (by (try simp only [List.map_toArray, List.map_cons, List.map_nil]); first | done | rfl | (simp only [List.length_drop, List.length_take]; rfl)) ?_; (with_reducible refine (clepsydralaw15_alive.calls k  true _ A5.out).mono ?_); rintro e w9 ⟨rfl, hb⟩; refine ⟨_, rfl, ?_⟩; have n0_ := Aside0.mk (blk_below (g := gb223) (o := .cells #[.int .i64 a0_0, .int .i64 a0_1, .int .i64 a0_2, .int .i64 a0_3, .int .i64 a0_4, .int .i64 a0_5, .int .i64 a0_6, .int .i64 a0_7, .int .i64 a0_8, .int .i64 a0_9, .int .i64 a0_10, .int .i64 a0_11] 23 (0, 0)) (by (with_reducible repeat (first | refine blk_drewN ?_ _ | refine blk_drew ?_ | refine blk_alloc ?_ _)); exact BK223.out) hb); have n1_ := Aside0.mk (below_step (by repeat (first | (with_reducible first | exact HB.out | apply below_alloc | apply pw_below_drewN | apply below_drew1 | refine below_set ?_ GE223.out) | exact HB.out)) hb); clear BK223; clear HB; have BK223 := n0_; have HB := n1_; clear n0_ n1_; (try clear hb); (try clear hb2); (try clear hk); (try clear hi)))
    (try simp only [Act.put, List.setIfInBounds_toArray, List.set_cons_zero, List.set_cons_succ])
    go_cut [42] (fun v42 wc => ∃ (kq : Nat) (x42_6 : Bool), v42 = .bool x42_6 ∧ Aside0 (clepsydralaw15_RouteSettles.j0 kq l1 l2 l3 (l1.length : Int) x42_6 a0_0 a0_1 a0_2 a0_3 a0_4 a0_5 a0_6 a0_7 a0_8 a0_9 a0_10 a0_11 = some r) ∧ Aside0 (kq ≤ k) ∧ Aside0 (wc.heap[gb223]? = some (.cells #[.int .i64 a0_0, .int .i64 a0_1, .int .i64 a0_2, .int .i64 a0_3, .int .i64 a0_4, .int .i64 a0_5, .int .i64 a0_6, .int .i64 a0_7, .int .i64 a0_8, .int .i64 a0_9, .int .i64 a0_10, .int .i64 a0_11] 23 (0, 0))) ∧ Aside0 (Below w.heap.size w wc))
    case first =>
      have H := HC7.out
      clear HC7
      replace H := Option.bind_eq_some_iff.mp H
      obtain ⟨t225, A100, H⟩ := H
      replace H : (if t225 = true then (clepsydralaw15_RouteSettles.j0 k l1 l2 l3 (l1.length : Int) true a0_0 a0_1 a0_2 a0_3 a0_4 a0_5 a0_6 a0_7 a0_8 a0_9 a0_10 a0_11) else (if (l1.length : Int) > 12 then (clepsydralaw15_RouteSettles.j0 k l1 l2 l3 (l1.length : Int) true a0_0 a0_1 a0_2 a0_3 a0_4 a0_5 a0_6 a0_7 a0_8 a0_9 a0_10 a0_11) else (if (l2.length : Int) = (l1.length : Int) then (clepsydralaw15_RouteSettles.j0 k l1 l2 l3 (l1.length : Int) ((l3.length : Int) != (l1.length : Int)) a0_0 a0_1 a0_2 a0_3 a0_4 a0_5 a0_6 a0_7 a0_8 a0_9 a0_10 a0_11) else (clepsydralaw15_RouteSettles.j0 k l1 l2 l3 (l1.length : Int) true a0_0 a0_1 a0_2 a0_3 a0_4 a0_5 a0_6 a0_7 a0_8 a0_9 a0_10 a0_11)))) = some r := H
      have A10 := Aside0.mk A100
      clear A100
      by_cases c11 : t225 = true
      · subst c11
        have H1 : (clepsydralaw15_RouteSettles.j0 k l1 l2 l3 (l1.length : Int) true a0_0 a0_1 a0_2 a0_3 a0_4 a0_5 a0_6 a0_7 a0_8 a0_9 a0_10 a0_11) = some r := by rw [if_pos rfl] at H; exact H
        clear H
        have H := H1
        clear H1
        have H' := Aside0.mk H
        clear H
        have hcz12_0 : w9.cell? ⟨gb223, 0, none⟩ = some (.int .i64 a0_0) := (blk_cell BK223.out 0).trans rfl
        have hcz12_1 : w9.cell? ⟨gb223, 1, none⟩ = some (.int .i64 a0_1) := (blk_cell BK223.out 1).trans rfl
        have hcz12_2 : w9.cell? ⟨gb223, 2, none⟩ = some (.int .i64 a0_2) := (blk_cell BK223.out 2).trans rfl
        have hcz12_3 : w9.cell? ⟨gb223, 3, none⟩ = some (.int .i64 a0_3) := (blk_cell BK223.out 3).trans rfl
        have hcz12_4 : w9.cell? ⟨gb223, 4, none⟩ = some (.int .i64 a0_4) := (blk_cell BK223.out 4).trans rfl
        have hcz12_5 : w9.cell? ⟨gb223, 5, none⟩ = some (.int .i64 a0_5) := (blk_cell BK223.out 5).trans rfl
        have hcz12_6 : w9.cell? ⟨gb223, 6, none⟩ = some (.int .i64 a0_6) := (blk_cell BK223.out 6).trans rfl
        have hcz12_7 : w9.cell? ⟨gb223, 7, none⟩ = some (.int .i64 a0_7) := (blk_cell BK223.out 7).trans rfl
        have hcz12_8 : w9.cell? ⟨gb223, 8, none⟩ = some (.int .i64 a0_8) := (blk_cell BK223.out 8).trans rfl
        have hcz12_9 : w9.cell? ⟨gb223, 9, none⟩ = some (.int .i64 a0_9) := (blk_cell BK223.out 9).trans rfl
        have hcz12_10 : w9.cell? ⟨gb223, 10, none⟩ = some (.int .i64 a0_10) := (blk_cell BK223.out 10).trans rfl
        have hcz12_11 : w9.cell? ⟨gb223, 11, none⟩ = some (.int .i64 a0_11) := (blk_cell BK223.out 11).trans rfl
        have hfz12_0 := blk_frozen BK223.out 0
        have hfz12_1 := blk_frozen BK223.out 1
        have hfz12_2 := blk_frozen BK223.out 2
        have hfz12_3 := blk_frozen BK223.out 3
        have hfz12_4 := blk_frozen BK223.out 4
        have hfz12_5 := blk_frozen BK223.out 5
        have hfz12_6 := blk_frozen BK223.out 6
        have hfz12_7 := blk_frozen BK223.out 7
        have hfz12_8 := blk_frozen BK223.out 8
        have hfz12_9 := blk_frozen BK223.out 9
        have hfz12_10 := blk_frozen BK223.out 10
        have hfz12_11 := blk_frozen BK223.out 11
        go_wp2_with (first | ((with_reducible refine gate_callee (f := 13) rfl ?_); refine goesL_ (some 26) rfl rfl Try.func13 (by kernel_rfl) rfl #[.agg #[.int .i64 a0_0, .int .i64 a0_1, .int .i64 a0_2, .int .i64 a0_3, .int .i64 a0_4, .int .i64 a0_5, .int .i64 a0_6, .int .i64 a0_7, .int .i64 a0_8, .int .i64 a0_9, .int .i64 a0_10, .int .i64 a0_11]] rfl (by (try simp only [List.map_toArray, List.map_cons, List.map_nil]); first | done | rfl | (simp only [List.length_drop, List.length_take]; rfl)) ?_; (with_reducible refine (clepsydralaw15_odd.calls a0_0 a0_1 a0_2 a0_3 a0_4 a0_5 a0_6 a0_7 a0_8 a0_9 a0_10 a0_11 true _ A10.out).mono ?_); rintro e w13 ⟨rfl, hb⟩; refine ⟨_, rfl, ?_⟩; have n0_ := Aside0.mk (blk_below (g := gb223) (o := .cells #[.int .i64 a0_0, .int .i64 a0_1, .int .i64 a0_2, .int .i64 a0_3, .int .i64 a0_4, .int .i64 a0_5, .int .i64 a0_6, .int .i64 a0_7, .int .i64 a0_8, .int .i64 a0_9, .int .i64 a0_10, .int .i64 a0_11] 23 (0, 0)) (by (with_reducible repeat (first | refine blk_drewN ?_ _ | refine blk_drew ?_ | refine blk_alloc ?_ _)); exact BK223.out) hb); have n1_ := Aside0.mk (below_step (by repeat (first | (with_reducible first | exact HB.out | apply below_alloc | apply pw_below_drewN | apply below_drew1 | refine below_set ?_ GE223.out) | exact HB.out)) hb); clear BK223; clear HB; have BK223 := n0_; have HB := n1_; clear n0_ n1_; (try clear hb); (try clear hb2); (try clear hk); (try clear hi)))
        go_meet
        case rel => exact ⟨_, (true), (by first | rfl | (simp; done) | (simp [*]; done)), H', ⟨by first | omega | exact Nat.le_refl _⟩, ⟨by (with_reducible repeat (first | refine blk_drewN ?_ _ | refine blk_drew ?_ | refine blk_alloc ?_ _)); exact BK223.out⟩, ⟨by repeat (first | (with_reducible first | exact HB.out | apply below_alloc | apply pw_below_drewN | apply below_drew1 | refine below_set ?_ GE223.out) | exact HB.out)⟩⟩
      · replace c11 := Bool.eq_false_iff.mpr c11
        subst c11
        have H1 : (if (l1.length : Int) > 12 then (clepsydralaw15_RouteSettles.j0 k l1 l2 l3 (l1.length : Int) true a0_0 a0_1 a0_2 a0_3 a0_4 a0_5 a0_6 a0_7 a0_8 a0_9 a0_10 a0_11) else (if (l2.length : Int) = (l1.length : Int) then (clepsydralaw15_RouteSettles.j0 k l1 l2 l3 (l1.length : Int) ((l3.length : Int) != (l1.length : Int)) a0_0 a0_1 a0_2 a0_3 a0_4 a0_5 a0_6 a0_7 a0_8 a0_9 a0_10 a0_11) else (clepsydralaw15_RouteSettles.j0 k l1 l2 l3 (l1.length : Int) true a0_0 a0_1 a0_2 a0_3 a0_4 a0_5 a0_6 a0_7 a0_8 a0_9 a0_10 a0_11))) = some r := by rw [if_neg (show ¬ (false = true) by decide)] at H; exact H
        clear H
        have H := H1
        clear H1
        by_cases c14 : (l1.length : Int) > 12
        · rw [if_pos c14] at H
          have c14b0 : decide (12 < (l1.length : Int)) = true := decide_eq_true c14
          have c14b1 : decide (12 < l1.length) = true := decide_eq_true (by omega)
          clear c14
          (first | rw [c14b0] | (simp only [i64_w, i32_w]; rw [c14b0]) | skip)
          have H' := Aside0.mk H
          clear H
          have hcz15_0 : w9.cell? ⟨gb223, 0, none⟩ = some (.int .i64 a0_0) := (blk_cell BK223.out 0).trans rfl
          have hcz15_1 : w9.cell? ⟨gb223, 1, none⟩ = some (.int .i64 a0_1) := (blk_cell BK223.out 1).trans rfl
          have hcz15_2 : w9.cell? ⟨gb223, 2, none⟩ = some (.int .i64 a0_2) := (blk_cell BK223.out 2).trans rfl
          have hcz15_3 : w9.cell? ⟨gb223, 3, none⟩ = some (.int .i64 a0_3) := (blk_cell BK223.out 3).trans rfl
          have hcz15_4 : w9.cell? ⟨gb223, 4, none⟩ = some (.int .i64 a0_4) := (blk_cell BK223.out 4).trans rfl
          have hcz15_5 : w9.cell? ⟨gb223, 5, none⟩ = some (.int .i64 a0_5) := (blk_cell BK223.out 5).trans rfl
          have hcz15_6 : w9.cell? ⟨gb223, 6, none⟩ = some (.int .i64 a0_6) := (blk_cell BK223.out 6).trans rfl
          have hcz15_7 : w9.cell? ⟨gb223, 7, none⟩ = some (.int .i64 a0_7) := (blk_cell BK223.out 7).trans rfl
          have hcz15_8 : w9.cell? ⟨gb223, 8, none⟩ = some (.int .i64 a0_8) := (blk_cell BK223.out 8).trans rfl
          have hcz15_9 : w9.cell? ⟨gb223, 9, none⟩ = some (.int .i64 a0_9) := (blk_cell BK223.out 9).trans rfl
          have hcz15_10 : w9.cell? ⟨gb223, 10, none⟩ = some (.int .i64 a0_10) := (blk_cell BK223.out 10).trans rfl
          have hcz15_11 : w9.cell? ⟨gb223, 11, none⟩ = some (.int .i64 a0_11) := (blk_cell BK223.out 11).trans rfl
          have hfz15_0 := blk_frozen BK223.out 0
          have hfz15_1 := blk_frozen BK223.out 1
          have hfz15_2 := blk_frozen BK223.out 2
          have hfz15_3 := blk_frozen BK223.out 3
          have hfz15_4 := blk_frozen BK223.out 4
          have hfz15_5 := blk_frozen BK223.out 5
          have hfz15_6 := blk_frozen BK223.out 6
          have hfz15_7 := blk_frozen BK223.out 7
          have hfz15_8 := blk_frozen BK223.out 8
          have hfz15_9 := blk_frozen BK223.out 9
          have hfz15_10 := blk_frozen BK223.out 10
          have hfz15_11 := blk_frozen BK223.out 11
          go_wp2_with (first | ((with_reducible refine gate_callee (f := 13) rfl ?_); refine goesL_ (some 26) rfl rfl Try.func13 (by kernel_rfl) rfl #[.agg #[.int .i64 a0_0, .int .i64 a0_1, .int .i64 a0_2, .int .i64 a0_3, .int .i64 a0_4, .int .i64 a0_5, .int .i64 a0_6, .int .i64 a0_7, .int .i64 a0_8, .int .i64 a0_9, .int .i64 a0_10, .int .i64 a0_11]] rfl (by (try simp only [List.map_toArray, List.map_cons, List.map_nil]); first | done | rfl | (simp only [List.length_drop, List.length_take]; rfl)) ?_; (with_reducible refine (clepsydralaw15_odd.calls a0_0 a0_1 a0_2 a0_3 a0_4 a0_5 a0_6 a0_7 a0_8 a0_9 a0_10 a0_11 false _ A10.out).mono ?_); rintro e w16 ⟨rfl, hb⟩; refine ⟨_, rfl, ?_⟩; have n0_ := Aside0.mk (blk_below (g := gb223) (o := .cells #[.int .i64 a0_0, .int .i64 a0_1, .int .i64 a0_2, .int .i64 a0_3, .int .i64 a0_4, .int .i64 a0_5, .int .i64 a0_6, .int .i64 a0_7, .int .i64 a0_8, .int .i64 a0_9, .int .i64 a0_10, .int .i64 a0_11] 23 (0, 0)) (by (with_reducible repeat (first | refine blk_drewN ?_ _ | refine blk_drew ?_ | refine blk_alloc ?_ _)); exact BK223.out) hb); have n1_ := Aside0.mk (below_step (by repeat (first | (with_reducible first | exact HB.out | apply below_alloc | apply pw_below_drewN | apply below_drew1 | refine below_set ?_ GE223.out) | exact HB.out)) hb); clear BK223; clear HB; have BK223 := n0_; have HB := n1_; clear n0_ n1_; (try clear hb); (try clear hb2); (try clear hk); (try clear hi)))
          go_meet
          case rel => exact ⟨_, (true), (by first | rfl | (simp; done) | (simp [*]; done)), H', ⟨by first | omega | exact Nat.le_refl _⟩, ⟨by (with_reducible repeat (first | refine blk_drewN ?_ _ | refine blk_drew ?_ | refine blk_alloc ?_ _)); exact BK223.out⟩, ⟨by repeat (first | (with_reducible first | exact HB.out | apply below_alloc | apply pw_below_drewN | apply below_drew1 | refine below_set ?_ GE223.out) | exact HB.out)⟩⟩
        · rw [if_neg c14] at H
          have c14b0 : decide (12 < (l1.length : Int)) = false := decide_eq_false c14
          have c14b1 : decide (12 < l1.length) = false := decide_eq_false (by omega)
          clear c14
          (first | rw [c14b0] | (simp only [i64_w, i32_w]; rw [c14b0]) | skip)
          by_cases c17 : (l2.length : Int) = (l1.length : Int)
          · rw [if_pos c17] at H
            have c17b0 : ((l2.length : Int) == (l1.length : Int)) = true := beq_iff_eq.mpr c17
            have c17b1 : ((l2.length : Int) != (l1.length : Int)) = false := bne_eq_false_iff_eq.mpr c17
            have c17b2 : (l2.length == l1.length) = true := by first | simpa using c17 | (simp at c17 ⊢; omega)
            clear c17
            have H' := Aside0.mk H
            clear H
            have hcz18_0 : w9.cell? ⟨gb223, 0, none⟩ = some (.int .i64 a0_0) := (blk_cell BK223.out 0).trans rfl
            have hcz18_1 : w9.cell? ⟨gb223, 1, none⟩ = some (.int .i64 a0_1) := (blk_cell BK223.out 1).trans rfl
            have hcz18_2 : w9.cell? ⟨gb223, 2, none⟩ = some (.int .i64 a0_2) := (blk_cell BK223.out 2).trans rfl
            have hcz18_3 : w9.cell? ⟨gb223, 3, none⟩ = some (.int .i64 a0_3) := (blk_cell BK223.out 3).trans rfl
            have hcz18_4 : w9.cell? ⟨gb223, 4, none⟩ = some (.int .i64 a0_4) := (blk_cell BK223.out 4).trans rfl
            have hcz18_5 : w9.cell? ⟨gb223, 5, none⟩ = some (.int .i64 a0_5) := (blk_cell BK223.out 5).trans rfl
            have hcz18_6 : w9.cell? ⟨gb223, 6, none⟩ = some (.int .i64 a0_6) := (blk_cell BK223.out 6).trans rfl
            have hcz18_7 : w9.cell? ⟨gb223, 7, none⟩ = some (.int .i64 a0_7) := (blk_cell BK223.out 7).trans rfl
            have hcz18_8 : w9.cell? ⟨gb223, 8, none⟩ = some (.int .i64 a0_8) := (blk_cell BK223.out 8).trans rfl
            have hcz18_9 : w9.cell? ⟨gb223, 9, none⟩ = some (.int .i64 a0_9) := (blk_cell BK223.out 9).trans rfl
            have hcz18_10 : w9.cell? ⟨gb223, 10, none⟩ = some (.int .i64 a0_10) := (blk_cell BK223.out 10).trans rfl
            have hcz18_11 : w9.cell? ⟨gb223, 11, none⟩ = some (.int .i64 a0_11) := (blk_cell BK223.out 11).trans rfl
            have hfz18_0 := blk_frozen BK223.out 0
            have hfz18_1 := blk_frozen BK223.out 1
            have hfz18_2 := blk_frozen BK223.out 2
            have hfz18_3 := blk_frozen BK223.out 3
            have hfz18_4 := blk_frozen BK223.out 4
            have hfz18_5 := blk_frozen BK223.out 5
            have hfz18_6 := blk_frozen BK223.out 6
            have hfz18_7 := blk_frozen BK223.out 7
            have hfz18_8 := blk_frozen BK223.out 8
            have hfz18_9 := blk_frozen BK223.out 9
            have hfz18_10 := blk_frozen BK223.out 10
            have hfz18_11 := blk_frozen BK223.out 11
            go_wp2_with (first | ((with_reducible refine gate_callee (f := 13) rfl ?_); refine goesL_ (some 26) rfl rfl Try.func13 (by kernel_rfl) rfl #[.agg #[.int .i64 a0_0, .int .i64 a0_1, .int .i64 a0_2, .int .i64 a0_3, .int .i64 a0_4, .int .i64 a0_5, .int .i64 a0_6, .int .i64 a0_7, .int .i64 a0_8, .int .i64 a0_9, .int .i64 a0_10, .int .i64 a0_11]] rfl (by (try simp only [List.map_toArray, List.map_cons, List.map_nil]); first | done | rfl | (simp only [List.length_drop, List.length_take]; rfl)) ?_; (with_reducible refine (clepsydralaw15_odd.calls a0_0 a0_1 a0_2 a0_3 a0_4 a0_5 a0_6 a0_7 a0_8 a0_9 a0_10 a0_11 false _ A10.out).mono ?_); rintro e w19 ⟨rfl, hb⟩; refine ⟨_, rfl, ?_⟩; have n0_ := Aside0.mk (blk_below (g := gb223) (o := .cells #[.int .i64 a0_0, .int .i64 a0_1, .int .i64 a0_2, .int .i64 a0_3, .int .i64 a0_4, .int .i64 a0_5, .int .i64 a0_6, .int .i64 a0_7, .int .i64 a0_8, .int .i64 a0_9, .int .i64 a0_10, .int .i64 a0_11] 23 (0, 0)) (by (with_reducible repeat (first | refine blk_drewN ?_ _ | refine blk_drew ?_ | refine blk_alloc ?_ _)); exact BK223.out) hb); have n1_ := Aside0.mk (below_step (by repeat (first | (with_reducible first | exact HB.out | apply below_alloc | apply pw_below_drewN | apply below_drew1 | refine below_set ?_ GE223.out) | exact HB.out)) hb); clear BK223; clear HB; have BK223 := n0_; have HB := n1_; clear n0_ n1_; (try clear hb); (try clear hb2); (try clear hk); (try clear hi)))
            go_meet
            case rel => exact ⟨_, (((l3.length : Int) != (l1.length : Int))), (by first | rfl | (simp; done) | (simp [*]; done)), H', ⟨by first | omega | exact Nat.le_refl _⟩, ⟨by (with_reducible repeat (first | refine blk_drewN ?_ _ | refine blk_drew ?_ | refine blk_alloc ?_ _)); exact BK223.out⟩, ⟨by repeat (first | (with_reducible first | exact HB.out | apply below_alloc | apply pw_below_drewN | apply below_drew1 | refine below_set ?_ GE223.out) | exact HB.out)⟩⟩
          · rw [if_neg c17] at H
            have c17b0 : ((l2.length : Int) == (l1.length : Int)) = false := beq_eq_false_iff_ne.mpr c17
            have c17b1 : ((l2.length : Int) != (l1.length : Int)) = true := bne_iff_ne.mpr c17
            have c17b2 : (l2.length == l1.length) = false := by first | simpa using c17 | (simp at c17 ⊢; omega)
            have H' := Aside0.mk H
            clear H
            have hcz20_0 : w9.cell? ⟨gb223, 0, none⟩ = some (.int .i64 a0_0) := (blk_cell BK223.out 0).trans rfl
            have hcz20_1 : w9.cell? ⟨gb223, 1, none⟩ = some (.int .i64 a0_1) := (blk_cell BK223.out 1).trans rfl
            have hcz20_2 : w9.cell? ⟨gb223, 2, none⟩ = some (.int .i64 a0_2) := (blk_cell BK223.out 2).trans rfl
            have hcz20_3 : w9.cell? ⟨gb223, 3, none⟩ = some (.int .i64 a0_3) := (blk_cell BK223.out 3).trans rfl
            have hcz20_4 : w9.cell? ⟨gb223, 4, none⟩ = some (.int .i64 a0_4) := (blk_cell BK223.out 4).trans rfl
            have hcz20_5 : w9.cell? ⟨gb223, 5, none⟩ = some (.int .i64 a0_5) := (blk_cell BK223.out 5).trans rfl
            have hcz20_6 : w9.cell? ⟨gb223, 6, none⟩ = some (.int .i64 a0_6) := (blk_cell BK223.out 6).trans rfl
            have hcz20_7 : w9.cell? ⟨gb223, 7, none⟩ = some (.int .i64 a0_7) := (blk_cell BK223.out 7).trans rfl
            have hcz20_8 : w9.cell? ⟨gb223, 8, none⟩ = some (.int .i64 a0_8) := (blk_cell BK223.out 8).trans rfl
            have hcz20_9 : w9.cell? ⟨gb223, 9, none⟩ = some (.int .i64 a0_9) := (blk_cell BK223.out 9).trans rfl
            have hcz20_10 : w9.cell? ⟨gb223, 10, none⟩ = some (.int .i64 a0_10) := (blk_cell BK223.out 10).trans rfl
            have hcz20_11 : w9.cell? ⟨gb223, 11, none⟩ = some (.int .i64 a0_11) := (blk_cell BK223.out 11).trans rfl
            have hfz20_0 := blk_frozen BK223.out 0
            have hfz20_1 := blk_frozen BK223.out 1
            have hfz20_2 := blk_frozen BK223.out 2
            have hfz20_3 := blk_frozen BK223.out 3
            have hfz20_4 := blk_frozen BK223.out 4
            have hfz20_5 := blk_frozen BK223.out 5
            have hfz20_6 := blk_frozen BK223.out 6
            have hfz20_7 := blk_frozen BK223.out 7
            have hfz20_8 := blk_frozen BK223.out 8
            have hfz20_9 := blk_frozen BK223.out 9
            have hfz20_10 := blk_frozen BK223.out 10
            have hfz20_11 := blk_frozen BK223.out 11
            go_wp2_with (first | ((with_reducible refine gate_callee (f := 13) rfl ?_); refine goesL_ (some 26) rfl rfl Try.func13 (by kernel_rfl) rfl #[.agg #[.int .i64 a0_0, .int .i64 a0_1, .int .i64 a0_2, .int .i64 a0_3, .int .i64 a0_4, .int .i64 a0_5, .int .i64 a0_6, .int .i64 a0_7, .int .i64 a0_8, .int .i64 a0_9, .int .i64 a0_10, .int .i64 a0_11]] rfl (by (try simp only [List.map_toArray, List.map_cons, List.map_nil]); first | done | rfl | (simp only [List.length_drop, List.length_take]; rfl)) ?_; (with_reducible refine (clepsydralaw15_odd.calls a0_0 a0_1 a0_2 a0_3 a0_4 a0_5 a0_6 a0_7 a0_8 a0_9 a0_10 a0_11 false _ A10.out).mono ?_); rintro e w21 ⟨rfl, hb⟩; refine ⟨_, rfl, ?_⟩; have n0_ := Aside0.mk (blk_below (g := gb223) (o := .cells #[.int .i64 a0_0, .int .i64 a0_1, .int .i64 a0_2, .int .i64 a0_3, .int .i64 a0_4, .int .i64 a0_5, .int .i64 a0_6, .int .i64 a0_7, .int .i64 a0_8, .int .i64 a0_9, .int .i64 a0_10, .int .i64 a0_11] 23 (0, 0)) (by (with_reducible repeat (first | refine blk_drewN ?_ _ | refine blk_drew ?_ | refine blk_alloc ?_ _)); exact BK223.out) hb); have n1_ := Aside0.mk (below_step (by repeat (first | (with_reducible first | exact HB.out | apply below_alloc | apply pw_below_drewN | apply below_drew1 | refine below_set ?_ GE223.out) | exact HB.out)) hb); clear BK223; clear HB; have BK223 := n0_; have HB := n1_; clear n0_ n1_; (try clear hb); (try clear hb2); (try clear hk); (try clear hi)))
            go_meet
            case rel => exact ⟨_, (true), (by first | rfl | (simp; done) | (simp [*]; done)), H', ⟨by first | omega | exact Nat.le_refl _⟩, ⟨by (with_reducible repeat (first | refine blk_drewN ?_ _ | refine blk_drew ?_ | refine blk_alloc ?_ _)); exact BK223.out⟩, ⟨by repeat (first | (with_reducible first | exact HB.out | apply below_alloc | apply pw_below_drewN | apply below_drew1 | refine below_set ?_ GE223.out) | exact HB.out)⟩⟩
    case rest =>
      clear HC7
      (try clear c1); (try clear c2); (try clear p2); (try clear c3); (try clear c6); (try clear c11); (try clear c12); (try clear c13); (try clear c14); (try clear c14b0); (try clear c14b1); (try clear c17); (try clear c17b0); (try clear c17b1); (try clear c17b2); (try clear hcz12_0); (try clear hcz12_1); (try clear hcz12_10); (try clear hcz12_11); (try clear hcz12_2); (try clear hcz12_3); (try clear hcz12_4); (try clear hcz12_5); (try clear hcz12_6); (try clear hcz12_7); (try clear hcz12_8); (try clear hcz12_9); (try clear hcz15_0); (try clear hcz15_1); (try clear hcz15_10); (try clear hcz15_11); (try clear hcz15_2); (try clear hcz15_3); (try clear hcz15_4); (try clear hcz15_5); (try clear hcz15_6); (try clear hcz15_7); (try clear hcz15_8); (try clear hcz15_9); (try clear hcz18_0); (try clear hcz18_1); (try clear hcz18_10); (try clear hcz18_11); (try clear hcz18_2); (try clear hcz18_3); (try clear hcz18_4); (try clear hcz18_5); (try clear hcz18_6); (try clear hcz18_7); (try clear hcz18_8); (try clear hcz18_9); (try clear hcz20_0); (try clear hcz20_1); (try clear hcz20_10); (try clear hcz20_11); (try clear hcz20_2); (try clear hcz20_3); (try clear hcz20_4); (try clear hcz20_5); (try clear hcz20_6); (try clear hcz20_7); (try clear hcz20_8); (try clear hcz20_9); (try clear hfz12_0); (try clear hfz12_1); (try clear hfz12_10); (try clear hfz12_11); (try clear hfz12_2); (try clear hfz12_3); (try clear hfz12_4); (try clear hfz12_5); (try clear hfz12_6); (try clear hfz12_7); (try clear hfz12_8); (try clear hfz12_9); (try clear hfz15_0); (try clear hfz15_1); (try clear hfz15_10); (try clear hfz15_11); (try clear hfz15_2); (try clear hfz15_3); (try clear hfz15_4); (try clear hfz15_5); (try clear hfz15_6); (try clear hfz15_7); (try clear hfz15_8); (try clear hfz15_9); (try clear hfz18_0); (try clear hfz18_1); (try clear hfz18_10); (try clear hfz18_11); (try clear hfz18_2); (try clear hfz18_3); (try clear hfz18_4); (try clear hfz18_5); (try clear hfz18_6); (try clear hfz18_7); (try clear hfz18_8); (try clear hfz18_9); (try clear hfz20_0); (try clear hfz20_1); (try clear hfz20_10); (try clear hfz20_11); (try clear hfz20_2); (try clear hfz20_3); (try clear hfz20_4); (try clear hfz20_5); (try clear hfz20_6); (try clear hfz20_7); (try clear hfz20_8); (try clear hfz20_9)
      obtain ⟨kq, x42_6, rfl, HA, HJ6, BK223, HB⟩ := hcut
      cases kq with
      | zero => exact absurd HA.out (by simp [clepsydralaw15_RouteSettles.j0])
      | succ kj6 =>
        have H := HA.out
        clear HA
        simp only [clepsydralaw15_RouteSettles.j0] at H
        by_cases c22 : x42_6 = true
        · subst c22
          have H1 : (some true) = some r := by rw [if_pos rfl] at H; exact H
          clear H
          have H := H1
          clear H1
          obtain rfl := Option.some.inj H
          go_wp2
          go_ret
          exact ⟨by first | rfl | (simp [errW_none, errW_some] <;> rfl) | (simp [*, errW_none, errW_some] <;> rfl), by repeat (first | (with_reducible first | exact HB.out | apply below_alloc | apply pw_below_drewN | apply below_drew1 | refine below_set ?_ GE223.out) | exact HB.out)⟩
        · replace c22 := Bool.eq_false_iff.mpr c22
          subst c22
          have H1 : (if 0 ≤ (l1.length : Int) then (if ((l1.length : Int) : Int).toNat ≤ 11728124029610 then ((some (List.replicate ((l1.length : Int) : Int).toNat [] : List (List Bool))).bind fun y226 => (clepsydralaw15_RouteSettles.l0 kj6 l1 l2 l3 (l1.length : Int) y226 (y226.length : Int) 0 a0_0 a0_1 a0_2 a0_3 a0_4 a0_5 a0_6 a0_7 a0_8 a0_9 a0_10 a0_11)) else (none)) else (none)) = some r := by rw [if_neg (show ¬ (false = true) by decide)] at H; exact H
          clear H
          have H := H1
          clear H1
          by_cases c23 : 0 ≤ (l1.length : Int)
          · rw [if_pos c23] at H
            have c23b0 := eq_true c23
            have c23b1 : decide (0 ≤ (l1.length : Int)) = true := decide_eq_true c23
            clear c23
            by_cases c24 : ((l1.length : Int) : Int).toNat ≤ 11728124029610
            · rw [if_pos c24] at H
              have c24b0 := eq_true c24
              have c24b1 : decide (((l1.length : Int) : Int).toNat ≤ 11728124029610) = true := decide_eq_true c24
              clear c24
              obtain ⟨y226, hy226⟩ : ∃ y_ : List (List Bool), y_ = (List.replicate ((l1.length : Int) : Int).toNat []) := ⟨_, rfl⟩
              replace H : (clepsydralaw15_RouteSettles.l0 kj6 l1 l2 l3 (l1.length : Int) y226 (y226.length : Int) 0 a0_0 a0_1 a0_2 a0_3 a0_4 a0_5 a0_6 a0_7 a0_8 a0_9 a0_10 a0_11) = some r := by first | (rw [hy226]; with_reducible exact H) | (have H2_ := (Option.bind_some _ _).symm.trans H; rw [hy226]; with_reducible exact H2_) | (have H2_ := (Option.bind_some _ _).symm.trans H; with_reducible exact H2_) | with_reducible exact H | (rw [hy226]; exact H) | exact H
              have Ny226 := Aside0.mk hy226
              clear hy226
              have H' := Aside0.mk H
              clear H
              go_wp2_with (first | ((with_reducible refine gate_dst (N := 44) rfl ?_); (try (refine gate_guard (by rfl) ?_; dsimp only)); refine Kd.S_make (Kd.slice 4 Kd.bool) _ 45 rfl (N := 44) rfl 46 _ _ rfl (l1.length : Int) rfl rfl Try.underlying46 (.slice none 0 0) 24 info45 rfl (by decide) (by omega) [] (ok := fun _ => True) (okp := fun _ => True) ⟨_, rfl, Kd.R_nil _ _ _ _ _⟩ (fun _ hk => hk) trivial (of_decide_eq_true (by first | (with_reducible assumption) | assumption)) (Nat.le_trans (Nat.mul_le_mul_right _ (of_decide_eq_true (by first | (with_reducible assumption) | assumption) : (l1.length : Int).toNat ≤ 11728124029610)) (by omega)) (Below.refl _ _) (Nat.le_refl _) ?_; intro v227 w25 ho26 hb hg_ hnew_; clear hg_ hnew_; (first | rw [← Ny226.out] at ho26 | (simp only [Int.reduceToNat] at ho26; rw [← Ny226.out] at ho26)); have n0_ := Aside0.mk (Kd.S_lower ho26 (below_size (by repeat (first | (with_reducible first | exact HB.out | apply below_alloc | apply pw_below_drewN | apply below_drew1 | refine below_set ?_ GE223.out) | exact HB.out)))); have n1_ := Aside0.mk (blk_below (g := gb223) (o := .cells #[.int .i64 a0_0, .int .i64 a0_1, .int .i64 a0_2, .int .i64 a0_3, .int .i64 a0_4, .int .i64 a0_5, .int .i64 a0_6, .int .i64 a0_7, .int .i64 a0_8, .int .i64 a0_9, .int .i64 a0_10, .int .i64 a0_11] 23 (0, 0)) (by (with_reducible repeat (first | refine blk_drewN ?_ _ | refine blk_drew ?_ | refine blk_alloc ?_ _)); exact BK223.out) hb); have n2_ := Aside0.mk (below_step (by repeat (first | (with_reducible first | exact HB.out | apply below_alloc | apply pw_below_drewN | apply below_drew1 | refine below_set ?_ GE223.out) | exact HB.out)) hb); clear BK223; clear HB; have HO228 := n0_; have BK223 := n1_; have HB := n2_; clear n0_ n1_ n2_; clear hb ho26; obtain ⟨Ao27, co27, eo27⟩ := Kd.S_slice HO228.out; subst eo27))
              go_loopg [47] kj6 (fun kq v47 w' => ∃ (x10_2 : List (List Bool)) (x47_2 : Int), v47 = .int .i64 x47_2 ∧ Aside0 (clepsydralaw15_RouteSettles.l0 kq l1 l2 l3 (l1.length : Int) x10_2 (y226.length : Int) x47_2 a0_0 a0_1 a0_2 a0_3 a0_4 a0_5 a0_6 a0_7 a0_8 a0_9 a0_10 a0_11 = some r) ∧ Aside0 (kq ≤ kj6) ∧ Aside0 (Kd.S (Kd.slice 4 Kd.bool) 45 w' w.heap.size (fun _ => True) (.slice Ao27 y226.length co27) x10_2) ∧ Aside0 (w'.heap[gb223]? = some (.cells #[.int .i64 a0_0, .int .i64 a0_1, .int .i64 a0_2, .int .i64 a0_3, .int .i64 a0_4, .int .i64 a0_5, .int .i64 a0_6, .int .i64 a0_7, .int .i64 a0_8, .int .i64 a0_9, .int .i64 a0_10, .int .i64 a0_11] 23 (0, 0))) ∧ Aside0 (Below w.heap.size w w'))
              case atStart => exact ⟨(y226), (0), (by first | rfl | (simp; done) | (simp [*]; done)), H', ⟨Nat.le_refl _⟩, ⟨by (with_reducible repeat (first | apply Kd.S_alloc | apply Kd.S_drewN | apply Kd.S_drew)); exact HO228.out⟩, ⟨by (with_reducible repeat (first | refine blk_drewN ?_ _ | refine blk_drew ?_ | refine blk_alloc ?_ _)); exact BK223.out⟩, ⟨by repeat (first | (with_reducible first | exact HB.out | apply below_alloc | apply pw_below_drewN | apply below_drew1 | refine below_set ?_ GE223.out) | exact HB.out)⟩⟩
              case round =>
                clear H'
                (try clear c1); (try clear c2); (try clear p2); (try clear c3); (try clear c6); (try clear c11); (try clear c12); (try clear c13); (try clear c14); (try clear c14b0); (try clear c14b1); (try clear c17); (try clear c17b0); (try clear c17b1); (try clear c17b2); (try clear c22); (try clear c23); (try clear c23b0); (try clear c23b1); (try clear c24); (try clear c24b0); (try clear c24b1); (try clear hcz12_0); (try clear hcz12_1); (try clear hcz12_10); (try clear hcz12_11); (try clear hcz12_2); (try clear hcz12_3); (try clear hcz12_4); (try clear hcz12_5); (try clear hcz12_6); (try clear hcz12_7); (try clear hcz12_8); (try clear hcz12_9); (try clear hcz15_0); (try clear hcz15_1); (try clear hcz15_10); (try clear hcz15_11); (try clear hcz15_2); (try clear hcz15_3); (try clear hcz15_4); (try clear hcz15_5); (try clear hcz15_6); (try clear hcz15_7); (try clear hcz15_8); (try clear hcz15_9); (try clear hcz18_0); (try clear hcz18_1); (try clear hcz18_10); (try clear hcz18_11); (try clear hcz18_2); (try clear hcz18_3); (try clear hcz18_4); (try clear hcz18_5); (try clear hcz18_6); (try clear hcz18_7); (try clear hcz18_8); (try clear hcz18_9); (try clear hcz20_0); (try clear hcz20_1); (try clear hcz20_10); (try clear hcz20_11); (try clear hcz20_2); (try clear hcz20_3); (try clear hcz20_4); (try clear hcz20_5); (try clear hcz20_6); (try clear hcz20_7); (try clear hcz20_8); (try clear hcz20_9); (try clear hfz12_0); (try clear hfz12_1); (try clear hfz12_10); (try clear hfz12_11); (try clear hfz12_2); (try clear hfz12_3); (try clear hfz12_4); (try clear hfz12_5); (try clear hfz12_6); (try clear hfz12_7); (try clear hfz12_8); (try clear hfz12_9); (try clear hfz15_0); (try clear hfz15_1); (try clear hfz15_10); (try clear hfz15_11); (try clear hfz15_2); (try clear hfz15_3); (try clear hfz15_4); (try clear hfz15_5); (try clear hfz15_6); (try clear hfz15_7); (try clear hfz15_8); (try clear hfz15_9); (try clear hfz18_0); (try clear hfz18_1); (try clear hfz18_10); (try clear hfz18_11); (try clear hfz18_2); (try clear hfz18_3); (try clear hfz18_4); (try clear hfz18_5); (try clear hfz18_6); (try clear hfz18_7); (try clear hfz18_8); (try clear hfz18_9); (try clear hfz20_0); (try clear hfz20_1); (try clear hfz20_10); (try clear hfz20_11); (try clear hfz20_2); (try clear hfz20_3); (try clear hfz20_4); (try clear hfz20_5); (try clear hfz20_6); (try clear hfz20_7); (try clear hfz20_8); (try clear hfz20_9); (try clear p2)
                obtain ⟨x10_2, x47_2, rfl, HA, HK2, HO_10, BK223, HB⟩ := hrel
                have hl10_2 := (Kd.S_reads' HO_10.out).1
                rw [hl10_2] at HO_10
                (try simp only [hl10_2])
                (try simp only [hl10_2] at BK223)
                cases gk with
                | zero => exact absurd HA.out (by simp [clepsydralaw15_RouteSettles.l0])
                | succ k2 =>
                  have H := HA.out
                  clear HA
                  simp only [clepsydralaw15_RouteSettles.l0] at H
                  by_cases c28 : x47_2 < (y226.length : Int)
                  · rw [if_pos c28] at H
                    have c28b0 : decide (x47_2 < (y226.length : Int)) = true := decide_eq_true c28
                    (try have c28b9 : decide (x47_2 < (x10_2.length : Int)) = true := by rw [← hl10_2]; exact c28b0)
                    clear c28
                    by_cases c29 : 0 ≤ (l1.length : Int)
                    · rw [if_pos c29] at H
                      have c29b0 := eq_true c29
                      have c29b1 : decide (0 ≤ (l1.length : Int)) = true := decide_eq_true c29
                      clear c29
                      by_cases c30 : ((l1.length : Int) : Int).toNat ≤ 281474976710656
                      · rw [if_pos c30] at H
                        have c30b0 := eq_true c30
                        have c30b1 : decide (((l1.length : Int) : Int).toNat ≤ 281474976710656) = true := decide_eq_true c30
                        clear c30
                        obtain ⟨y229, hy229⟩ : ∃ y_ : List Bool, y_ = (List.replicate ((l1.length : Int) : Int).toNat false) := ⟨_, rfl⟩
                        replace H : (if 0 ≤ x47_2 then (if x47_2 < (x10_2.length : Int) then ((some (x10_2.set (x47_2 : Int).toNat y229 : List (List Bool))).bind fun y232 => (clepsydralaw15_RouteSettles.l1 k2 l1 l2 l3 (l1.length : Int) y232 x47_2 (y226.length : Int) x47_2 ((rd_L7 y232 x47_2).length : Int) 0 a0_0 a0_1 a0_2 a0_3 a0_4 a0_5 a0_6 a0_7 a0_8 a0_9 a0_10 a0_11)) else (none)) else (none)) = some r := by first | (rw [hy229]; with_reducible exact H) | (have H2_ := (Option.bind_some _ _).symm.trans H; rw [hy229]; with_reducible exact H2_) | (have H2_ := (Option.bind_some _ _).symm.trans H; with_reducible exact H2_) | with_reducible exact H | (rw [hy229]; exact H) | exact H
                        have Ny229 := Aside0.mk hy229
                        clear hy229
                        by_cases c31 : 0 ≤ x47_2
                        · rw [if_pos c31] at H
                          have c31b0 : decide (0 ≤ x47_2) = true := decide_eq_true c31
                          clear c31
                          by_cases c32 : x47_2 < (x10_2.length : Int)
                          · rw [if_pos c32] at H
                            have c32b0 : decide (x47_2 < (x10_2.length : Int)) = true := decide_eq_true c32
                            clear c32
                            obtain ⟨y232, hy232⟩ : ∃ y_ : List (List Bool), y_ = (x10_2.set (x47_2 : Int).toNat y229) := ⟨_, rfl⟩
                            replace H : (clepsydralaw15_RouteSettles.l1 k2 l1 l2 l3 (l1.length : Int) y232 x47_2 (y226.length : Int) x47_2 ((rd_L7 y232 x47_2).length : Int) 0 a0_0 a0_1 a0_2 a0_3 a0_4 a0_5 a0_6 a0_7 a0_8 a0_9 a0_10 a0_11) = some r := by first | (rw [hy232]; with_reducible exact H) | (have H2_ := (Option.bind_some _ _).symm.trans H; rw [hy232]; with_reducible exact H2_) | (have H2_ := (Option.bind_some _ _).symm.trans H; with_reducible exact H2_) | with_reducible exact H | (rw [hy232]; exact H) | exact H
                            have Ny232 := Aside0.mk hy232
                            clear hy232
                            have H' := Aside0.mk H
                            clear H
                            go_wp2_with (first | ((with_reducible refine gate_dst (N := 53) rfl ?_); (try (refine gate_guard (by rfl) ?_; dsimp only)); refine Kd.R_make Kd.bool _ 4 rfl (N := 53) rfl 45 _ _ rfl (l1.length : Int) rfl rfl Try.underlying45 (.bool false) 1 info4 rfl (by decide) (by omega) false (ok := fun _ => True) (okp := fun _ => True) rfl (fun _ hk => hk) trivial (of_decide_eq_true (by first | (with_reducible assumption) | assumption)) (Nat.le_trans (Nat.mul_le_mul_right _ (of_decide_eq_true (by first | (with_reducible assumption) | assumption) : (l1.length : Int).toNat ≤ 281474976710656)) (by omega)) (Below.refl _ _) (Nat.le_refl _) ?_; intro v230 w34 ho35 hb hg_ hnew_; clear hg_ hnew_; (first | rw [← Ny229.out] at ho35 | (simp only [Int.reduceToNat] at ho35; rw [← Ny229.out] at ho35)); have n0_ := Aside0.mk (Kd.S_elder' (by (with_reducible repeat (first | apply Kd.S_alloc | apply Kd.S_drewN | apply Kd.S_drew)); exact HO_10.out) (Kd.R_base ho35) hb); have n1_ := Aside0.mk (Kd.R_lower ho35 (below_size (by repeat (first | (with_reducible first | exact HB.out | apply below_alloc | apply pw_below_drewN | apply below_drew1 | refine below_set ?_ GE223.out) | exact HB.out)))); have n2_ := Aside0.mk (blk_below (g := gb223) (o := .cells #[.int .i64 a0_0, .int .i64 a0_1, .int .i64 a0_2, .int .i64 a0_3, .int .i64 a0_4, .int .i64 a0_5, .int .i64 a0_6, .int .i64 a0_7, .int .i64 a0_8, .int .i64 a0_9, .int .i64 a0_10, .int .i64 a0_11] 23 (0, 0)) (by (with_reducible repeat (first | refine blk_drewN ?_ _ | refine blk_drew ?_ | refine blk_alloc ?_ _)); exact BK223.out) hb); have n3_ := Aside0.mk (below_step (by repeat (first | (with_reducible first | exact HB.out | apply below_alloc | apply pw_below_drewN | apply below_drew1 | refine below_set ?_ GE223.out) | exact HB.out)) hb); clear HO_10; clear BK223; clear HB; have HO_10 := n0_; have HO231 := n1_; have BK223 := n2_; have HB := n3_; clear n0_ n1_ n2_ n3_; clear hb ho35; have p33 : 0 ≤ (x47_2 : Int) := of_decide_eq_true (by first | (with_reducible assumption) | assumption); have q33 : (x47_2 : Int) < ((x10_2.length : Int) : Int) := of_decide_eq_true (by first | (with_reducible assumption) | assumption); obtain ⟨go33, co33, eo33, gb33, gl33, cl33, HG33⟩ := Kd.S_form HO_10.out (by omega); (first | cases eo33 | (injection eo33 with ea_ en_ ec_; (first | subst ea_ | (injection ea_ with ea_; subst ea_)); subst ec_; clear en_)); have GB33 := Aside0.mk gb33; have GG33 := Aside0.mk HG33; clear gb33 gl33 HG33; obtain ⟨_, ce33, hcl33, hM33, hcc33, hfr33, _, _⟩ := Kd.S_elem HO_10.out [] (x47_2 : Int) p33 q33; obtain ⟨ve33_0, rfl, ge33_0⟩ := hM33; have hx33_0 := hcc33 0 _ rfl; have hf33_0 := hfr33 0; (try simp only [show ((Kd.slice 4 Kd.bool)).sz = 1 from rfl, Nat.mul_one, Nat.add_zero] at hx33_0); (try simp only [show ((Kd.slice 4 Kd.bool)).sz = 1 from rfl, Nat.mul_one, Nat.add_zero] at hf33_0); (try clear hcl33); (try clear hcc33); (try clear hfr33); (try clear hM33); replace p33 := eq_true p33; replace q33 := eq_true q33; have n_ := Aside0.mk (Kd.S_mono (ok' := (fun k_ => some k_ ≠ (v230 : Value).ownBlock)) HO_10.out (fun k_ hk => hk.2)); clear HO_10; have HO_10 := n_; clear n_; have HX36 := Aside0.mk (show Kd.S (Kd.slice 4 Kd.bool) 45 w34 w.heap.size (fun k_ => ((fun _ => True)) k_ ∧ ¬ ((fun k_ => some k_ = (v230 : Value).ownBlock)) k_) (.slice (some ⟨go33, 0, none⟩) x10_2.length co27) x10_2 from (by (with_reducible repeat (first | apply Kd.S_alloc | apply Kd.S_drewN | apply Kd.S_drew)); exact Kd.S_mono HO_10.out (fun k_ hk => ⟨trivial, fun e_ => hk e_⟩))); obtain ⟨oki36, ce36, hcl36, hM36, hcc36, hfr36, hoki36, hH36⟩ := Kd.S_elem HX36.out [] (x47_2 : Int) (of_decide_eq_true (by first | (with_reducible assumption) | assumption)) (by have h_ : (x47_2 : Int) < ((x10_2.length : Int) : Int) := of_decide_eq_true (by first | (with_reducible assumption) | assumption); first | exact h_ | (have e_ := (Kd.S_reads' HO_10.out).1; omega) | simpa using h_); obtain ⟨ve36_0, rfl, ge36_0⟩ := hM36; have HP36 := Kd.S_seg hH36 (of_decide_eq_true (by first | (with_reducible assumption) | assumption)) (by have h_ : (x47_2 : Int) < ((x10_2.length : Int) : Int) := of_decide_eq_true (by first | (with_reducible assumption) | assumption); first | exact h_ | (have e_ := (Kd.S_reads' HO_10.out).1; omega) | simpa using h_) (seg := [v230]) (j := 0) (show 1 ≤ 1 from by decide) (x' := y229) (Kd.M_row (Kd.R_mono (Kd.R_tight rfl (Kd.R_mono (ok' := fun k_ => ((fun _ => True)) k_ ∧ k_ ≠ go33) (Kd.R_apart' (HO231.out) (Kd.S_typed HO_10.out) (by decide)) (fun k_ hk => ⟨trivial, fun e_ => (hk.2) (by rw [e_]; rfl)⟩))) (fun _ h_ => Or.inr (h_)))) (fun _ hk => hk) (fun k_ hk_ => ((Kd.R_mono (ok' := fun k_ => ((fun _ => True)) k_ ∧ k_ ≠ go33) (Kd.R_apart' (HO231.out) (Kd.S_typed HO_10.out) (by decide)) (fun k_ hk => ⟨trivial, fun e_ => (hk.2) (by rw [e_]; rfl)⟩))).1 k_ hk_.symm); have hx36_0 := hcc36 0 _ rfl; (try simp only [show ((Kd.slice 4 Kd.bool)).sz = 1 from rfl, Nat.mul_one, Nat.add_zero] at hx36_0); have hf36_0 := hfr36 0; (try simp only [show ((Kd.slice 4 Kd.bool)).sz = 1 from rfl, Nat.mul_one, Nat.add_zero] at hf36_0); (try clear hcl36); (try clear hcc36); (try clear hfr36); (try clear hM36); (try clear hoki36); (try clear hH36); (try simp only [show ((Kd.slice 4 Kd.bool)).sz = 1 from rfl, Nat.mul_one, Nat.add_zero] at HP36)) | ((with_reducible refine gate_store (t := 45) (p := 54) rfl ?_); refine store_event (t := 45) (p := 54) (v := ?vo_w37) (w1 := (w34.setCell ⟨go33, (x47_2 : Int).toNat, none⟩ (v230))) ?hg ?ho ?hn ?hr ?_; (case ho => rfl); (case hg => rfl); (case hn => rfl); (case hr => obtain ⟨_, _, rfl⟩ := Kd.R_slice HO231.out; first | (go_simp; done) | (go_simp; rfl)); intro w37 hw; have hg : w34.grownBy w37 (some go33) := (by rw [hw]; exact HP36.2); have hp_ : Kd.S (Kd.slice 4 Kd.bool) 45 w37 w.heap.size (fun _ => True) (.slice (some ⟨go33, 0, none⟩) x10_2.length co27) y232 := (by rw [hw, Ny232.out]; exact HP36.1); clear HP36; have n0_ := Aside0.mk (hp_); have n1_ := Aside0.mk (blk_grown (g := gb223) (o := .cells #[.int .i64 a0_0, .int .i64 a0_1, .int .i64 a0_2, .int .i64 a0_3, .int .i64 a0_4, .int .i64 a0_5, .int .i64 a0_6, .int .i64 a0_7, .int .i64 a0_8, .int .i64 a0_9, .int .i64 a0_10, .int .i64 a0_11] 23 (0, 0)) (by (with_reducible repeat (first | refine blk_drewN ?_ _ | refine blk_drew ?_ | refine blk_alloc ?_ _)); exact BK223.out) hg (Kd.S_ne HO_10.out BK223.out (by decide))); have n2_ := Aside0.mk ((by rw [hw]; exact below_set (HB.out) GB33.out : Below w.heap.size w w37)); clear HO_10; clear BK223; clear HB; clear HO231; have HO_10 := n0_; have BK223 := n1_; have HB := n2_; clear n0_ n1_ n2_; clear hg hw hp_; have p233 : 0 ≤ (x47_2 : Int) := of_decide_eq_true (by first | (with_reducible assumption) | assumption); have q233 : x47_2 < (y232.length : Int) := (by have h_ : (x47_2 : Int) < ((x10_2.length : Int) : Int) := of_decide_eq_true (by first | (with_reducible assumption) | assumption); first | (have e_ := (Kd.S_reads' HO_10.out).1; omega) | simpa only [Ny232.out, List.length_set] using h_); have ql233 : ((x47_2 : Int) < ((x10_2.length : Int) : Int)) = True := eq_true (of_decide_eq_true (by first | (with_reducible assumption) | assumption)); obtain ⟨ad233, A233_0, c233_0, e233, hx233_0, hl233_0, hi233_0⟩ := at_L7 (Kd.S_reads' HO_10.out).2.2 x47_2 p233 q233; obtain rfl : (⟨go33, 0, none⟩ : Addr) = ad233 := (by injection e233); obtain ⟨ce233, hce233, hMe233, hcc233⟩ := Kd.S_get HO_10.out [] x47_2 p233 (by first | exact q233 | exact of_decide_eq_true (by first | (with_reducible assumption) | assumption) | (have e_ := (Kd.S_reads' HO_10.out).1; omega)); obtain ⟨ve233_0, rfl, ge233_0⟩ := hMe233; have hv233_0 := hcc233 0 _ rfl; rw [Nat.add_zero, show ((Kd.slice 4 Kd.bool)).sz = 1 from rfl, Nat.mul_one] at hv233_0; replace hv233_0 := Option.some.inj (hv233_0.symm.trans hx233_0); rw [hv233_0] at ge233_0; have HL233_0 := Aside0.mk (show Kd.R Kd.bool 4 _ _ _ _ (rd_L7 y232 x47_2) from ge233_0); clear hv233_0 ge233_0; have HX233_0 := Aside0.mk hx233_0; clear hcc233 hce233; (first | simp only [add_plain] at hx233_0 | simp only [add_at] at hx233_0 | simp only [Addr.add, Nat.zero_add] at hx233_0 | skip); have HR233_0 := Aside0.mk hi233_0; have HC233_0 := Aside0.mk hl233_0; clear hi233_0 hl233_0; replace p233 := eq_true p233; replace q233 := eq_true q233))
                            go_loopg [60] k2 (fun kq v60 w' => ∃ (x10_3 : List (List Bool)) (x60_3 : Int), v60 = .int .i64 x60_3 ∧ Aside0 (clepsydralaw15_RouteSettles.l1 kq l1 l2 l3 (l1.length : Int) x10_3 x47_2 (y226.length : Int) x47_2 ((rd_L7 y232 x47_2).length : Int) x60_3 a0_0 a0_1 a0_2 a0_3 a0_4 a0_5 a0_6 a0_7 a0_8 a0_9 a0_10 a0_11 = some r) ∧ Aside0 (kq ≤ k2) ∧ Aside0 (Kd.S (Kd.slice 4 Kd.bool) 45 w' w.heap.size (fun _ => True) (.slice (some ⟨go33, 0, none⟩) x10_2.length co27) x10_3) ∧ Aside0 (w'.heap[gb223]? = some (.cells #[.int .i64 a0_0, .int .i64 a0_1, .int .i64 a0_2, .int .i64 a0_3, .int .i64 a0_4, .int .i64 a0_5, .int .i64 a0_6, .int .i64 a0_7, .int .i64 a0_8, .int .i64 a0_9, .int .i64 a0_10, .int .i64 a0_11] 23 (0, 0))) ∧ Aside0 (Below w.heap.size w w'))
                            case atStart => exact ⟨(y232), (0), (by first | rfl | (simp; done) | (simp [*]; done)), H', ⟨Nat.le_refl _⟩, ⟨by (try simp only [hl10_2]); (with_reducible repeat (first | apply Kd.S_alloc | apply Kd.S_drewN | apply Kd.S_drew)); exact HO_10.out⟩, ⟨by (try simp only [hl10_2]); (with_reducible repeat (first | refine blk_drewN ?_ _ | refine blk_drew ?_ | refine blk_alloc ?_ _)); exact BK223.out⟩, ⟨by repeat (first | (with_reducible first | exact HB.out | apply below_alloc | apply pw_below_drewN | apply below_drew1 | refine below_set ?_ GE223.out) | exact HB.out)⟩⟩
                            case round =>
                              clear H'
                              (try clear c1); (try clear c2); (try clear p2); (try clear q2); (try clear hx2); (try clear c3); (try clear p3); (try clear q3); (try clear hx3); (try clear c6); (try clear c11); (try clear c12); (try clear c13); (try clear c14); (try clear c14b0); (try clear c14b1); (try clear c17); (try clear c17b0); (try clear c17b1); (try clear c17b2); (try clear c22); (try clear c23); (try clear c23b0); (try clear c23b1); (try clear p23); (try clear q23); (try clear hx23); (try clear c24); (try clear c24b0); (try clear c24b1); (try clear c28); (try clear c28b0); (try clear c29); (try clear c29b0); (try clear c29b1); (try clear c30); (try clear c30b0); (try clear c30b1); (try clear c31); (try clear c31b0); (try clear c32); (try clear c32b0); (try clear c33); (try clear p33); (try clear q33); (try clear hx33); (try clear hf33); (try clear c36); (try clear hx36); (try clear hf36); (try clear hcz12_0); (try clear hcz12_1); (try clear hcz12_10); (try clear hcz12_11); (try clear hcz12_2); (try clear hcz12_3); (try clear hcz12_4); (try clear hcz12_5); (try clear hcz12_6); (try clear hcz12_7); (try clear hcz12_8); (try clear hcz12_9); (try clear hcz15_0); (try clear hcz15_1); (try clear hcz15_10); (try clear hcz15_11); (try clear hcz15_2); (try clear hcz15_3); (try clear hcz15_4); (try clear hcz15_5); (try clear hcz15_6); (try clear hcz15_7); (try clear hcz15_8); (try clear hcz15_9); (try clear hcz18_0); (try clear hcz18_1); (try clear hcz18_10); (try clear hcz18_11); (try clear hcz18_2); (try clear hcz18_3); (try clear hcz18_4); (try clear hcz18_5); (try clear hcz18_6); (try clear hcz18_7); (try clear hcz18_8); (try clear hcz18_9); (try clear hcz20_0); (try clear hcz20_1); (try clear hcz20_10); (try clear hcz20_11); (try clear hcz20_2); (try clear hcz20_3); (try clear hcz20_4); (try clear hcz20_5); (try clear hcz20_6); (try clear hcz20_7); (try clear hcz20_8); (try clear hcz20_9); (try clear hfz12_0); (try clear hfz12_1); (try clear hfz12_10); (try clear hfz12_11); (try clear hfz12_2); (try clear hfz12_3); (try clear hfz12_4); (try clear hfz12_5); (try clear hfz12_6); (try clear hfz12_7); (try clear hfz12_8); (try clear hfz12_9); (try clear hfz15_0); (try clear hfz15_1); (try clear hfz15_10); (try clear hfz15_11); (try clear hfz15_2); (try clear hfz15_3); (try clear hfz15_4); (try clear hfz15_5); (try clear hfz15_6); (try clear hfz15_7); (try clear hfz15_8); (try clear hfz15_9); (try clear hfz18_0); (try clear hfz18_1); (try clear hfz18_10); (try clear hfz18_11); (try clear hfz18_2); (try clear hfz18_3); (try clear hfz18_4); (try clear hfz18_5); (try clear hfz18_6); (try clear hfz18_7); (try clear hfz18_8); (try clear hfz18_9); (try clear hfz20_0); (try clear hfz20_1); (try clear hfz20_10); (try clear hfz20_11); (try clear hfz20_2); (try clear hfz20_3); (try clear hfz20_4); (try clear hfz20_5); (try clear hfz20_6); (try clear hfz20_7); (try clear hfz20_8); (try clear hfz20_9); (try clear hx233_0); (try clear hx33_0); (try clear hx36_0); (try clear p2); (try clear p233); (try clear p33); (try clear q233); (try clear q33)
                              obtain ⟨x10_3, x60_3, rfl, HA, HK3, HO_10, BK223, HB⟩ := hrel
                              have hl10_3 := (Kd.S_reads' HO_10.out).1
                              rw [hl10_3] at HO_10
                              (try simp only [hl10_3])
                              (try simp only [hl10_3] at BK223)
                              cases gk with
                              | zero => exact absurd HA.out (by simp [clepsydralaw15_RouteSettles.l1])
                              | succ k3 =>
                                have H := HA.out
                                clear HA
                                simp only [clepsydralaw15_RouteSettles.l1] at H
                                by_cases c38 : x60_3 < ((rd_L7 y232 x47_2).length : Int)
                                · rw [if_pos c38] at H
                                  have c38b0 : decide (x60_3 < ((rd_L7 y232 x47_2).length : Int)) = true := decide_eq_true c38
                                  clear c38
                                  by_cases c39 : 0 ≤ x47_2
                                  · rw [if_pos c39] at H
                                    have c39b0 : decide (0 ≤ x47_2) = true := decide_eq_true c39
                                    clear c39
                                    by_cases c40 : x47_2 < (x10_3.length : Int)
                                    · rw [if_pos c40] at H
                                      have c40b0 : decide (x47_2 < (x10_3.length : Int)) = true := decide_eq_true c40
                                      clear c40
                                      by_cases c41 : x47_2 = x60_3
                                      · rw [if_pos c41] at H
                                        have c41b0 : (x47_2 == x60_3) = true := beq_iff_eq.mpr c41
                                        have c41b1 : (x47_2 != x60_3) = false := bne_eq_false_iff_eq.mpr c41
                                        clear c41
                                        by_cases c42 : 0 ≤ x60_3
                                        · rw [if_pos c42] at H
                                          have c42b0 : decide (0 ≤ x60_3) = true := decide_eq_true c42
                                          clear c42
                                          by_cases c43 : x60_3 < ((rd_L7 x10_3 x47_2).length : Int)
                                          · rw [if_pos c43] at H
                                            have c43b0 : decide (x60_3 < ((rd_L7 x10_3 x47_2).length : Int)) = true := decide_eq_true c43
                                            clear c43
                                            obtain ⟨y235, hy235⟩ : ∃ y_ : List Bool, y_ = ((rd_L7 x10_3 x47_2).set (x60_3 : Int).toNat false) := ⟨_, rfl⟩
                                            replace H : (clepsydralaw15_RouteSettles.l1 k3 l1 l2 l3 (l1.length : Int) (x10_3.set (x47_2 : Int).toNat y235) x47_2 (y226.length : Int) x47_2 ((rd_L7 y232 x47_2).length : Int) (wrap64 (x60_3 + 1)) a0_0 a0_1 a0_2 a0_3 a0_4 a0_5 a0_6 a0_7 a0_8 a0_9 a0_10 a0_11) = some r := by first | (rw [hy235]; with_reducible exact H) | (have H2_ := (Option.bind_some _ _).symm.trans H; rw [hy235]; with_reducible exact H2_) | (have H2_ := (Option.bind_some _ _).symm.trans H; with_reducible exact H2_) | with_reducible exact H | (rw [hy235]; exact H) | exact H
                                            have Ny235 := Aside0.mk hy235
                                            clear hy235
                                            obtain ⟨y237, hy237⟩ : ∃ y_ : List (List Bool), y_ = (x10_3.set (x47_2 : Int).toNat y235) := ⟨_, rfl⟩
                                            replace H : (clepsydralaw15_RouteSettles.l1 k3 l1 l2 l3 (l1.length : Int) y237 x47_2 (y226.length : Int) x47_2 ((rd_L7 y232 x47_2).length : Int) (wrap64 (x60_3 + 1)) a0_0 a0_1 a0_2 a0_3 a0_4 a0_5 a0_6 a0_7 a0_8 a0_9 a0_10 a0_11) = some r := by first | (rw [hy237]; with_reducible exact H) | (have H2_ := (Option.bind_some _ _).symm.trans H; rw [hy237]; with_reducible exact H2_) | (have H2_ := (Option.bind_some _ _).symm.trans H; with_reducible exact H2_) | with_reducible exact H | (rw [hy237]; exact H) | exact H
                                            have Ny237 := Aside0.mk hy237
                                            clear hy237
                                            have H' := Aside0.mk H
                                            clear H
                                            try go_wp2
                                            have n0_ := Aside0.mk (Kd.S_drew HO_10.out)
                                            have n1_ := Aside0.mk (blk_drew BK223.out)
                                            have n2_ := Aside0.mk (below_drew1 HB.out)
                                            clear HO_10
                                            clear BK223
                                            clear HB
                                            have HO_10 := n0_
                                            have BK223 := n1_
                                            have HB := n2_
                                            clear n0_ n1_ n2_
                                            have p234 : 0 ≤ (x47_2 : Int) := of_decide_eq_true (by first | (with_reducible assumption) | assumption)
                                            have q234 : x47_2 < (x10_3.length : Int) := of_decide_eq_true (by first | (with_reducible assumption) | assumption)
                                            obtain ⟨ad234, A234_0, c234_0, e234, hx234_0, hl234_0, hi234_0⟩ := at_L7 (Kd.S_reads' HO_10.out).2.2 x47_2 p234 q234
                                            obtain rfl : (⟨go33, 0, none⟩ : Addr) = ad234 := (by injection e234)
                                            obtain ⟨ce234, hce234, hMe234, hcc234⟩ := Kd.S_get HO_10.out [] x47_2 p234 (by first | exact q234 | exact of_decide_eq_true (by first | (with_reducible assumption) | assumption) | (have e_ := (Kd.S_reads' HO_10.out).1; omega))
                                            obtain ⟨ve234_0, rfl, ge234_0⟩ := hMe234
                                            have hv234_0 := hcc234 0 _ rfl
                                            rw [Nat.add_zero, show ((Kd.slice 4 Kd.bool)).sz = 1 from rfl, Nat.mul_one] at hv234_0
                                            replace hv234_0 := Option.some.inj (hv234_0.symm.trans hx234_0)
                                            rw [hv234_0] at ge234_0
                                            have HL234_0 := Aside0.mk (show Kd.R Kd.bool 4 _ _ _ _ (rd_L7 x10_3 x47_2) from ge234_0)
                                            clear hv234_0 ge234_0
                                            have HX234_0 := Aside0.mk hx234_0
                                            clear hcc234 hce234
                                            (first | simp only [add_plain] at hx234_0 | simp only [add_at] at hx234_0 | simp only [Addr.add, Nat.zero_add] at hx234_0 | skip)
                                            have HR234_0 := Aside0.mk hi234_0
                                            have HC234_0 := Aside0.mk hl234_0
                                            clear hi234_0 hl234_0
                                            replace p234 := eq_true p234
                                            replace q234 := eq_true q234
                                            have p44 : 0 ≤ (x60_3 : Int) := of_decide_eq_true (by first | (with_reducible assumption) | assumption)
                                            have q44 : (x60_3 : Int) < (((rd_L7 x10_3 x47_2).length : Int) : Int) := of_decide_eq_true (by first | (with_reducible assumption) | assumption)
                                            obtain ⟨go44, co44, eo44, gb44, gl44, cl44, HG44⟩ := Kd.R_form HL234_0.out (by omega)
                                            (first | cases eo44 | (injection eo44 with ea_ en_ ec_; (first | subst ea_ | (injection ea_ with ea_; subst ea_)); subst ec_; clear en_))
                                            have GB44 := Aside0.mk gb44
                                            have GG44 := Aside0.mk HG44
                                            clear gb44 gl44 HG44
                                            obtain ⟨hx44_0, hf44_0⟩ := Kd.R_celln false HL234_0.out (x60_3 : Int) p44 q44
                                            replace p44 := eq_true p44
                                            replace q44 := eq_true q44
                                            have hq46 : (x47_2 : Int) < (x10_3.length : Int) := (by have h_ : (x47_2 : Int) < ((x10_3.length : Int) : Int) := of_decide_eq_true (by first | (with_reducible assumption) | assumption); first | exact h_ | (have e_ := (Kd.S_reads' HO_10.out).1; omega) | simpa only [List.length_set, List.length_set] using h_)
                                            obtain ⟨oki46, ce46, hcl46, hM46, hcc46, hok46, hbk46⟩ := Kd.S_borrow HO_10.out [] (x47_2 : Int) (of_decide_eq_true (by first | (with_reducible assumption) | assumption)) hq46
                                            obtain ⟨ve46_0, rfl, ge46_0⟩ := hM46
                                            have hv46 := hcc46 0 _ rfl
                                            rw [Nat.add_zero, show ((Kd.slice 4 Kd.bool)).sz = 1 from rfl, Nat.mul_one] at hv46
                                            replace hv46 := Option.some.inj (hv46.symm.trans HX234_0.out)
                                            subst hv46
                                            clear hcc46 hcl46
                                            replace ge46_0 := (show Kd.R Kd.bool 4 _ _ _ _ (rd_L7 x10_3 x47_2) from ge46_0)
                                            have HP46 := Kd.R_putg ge46_0 (x60_3 : Int) false
                                            rw [← Ny235.out] at HP46
                                            have HS46 := hbk46 HP46.2 (fun k_ e_ => by injection e_ with e_; subst e_; exact ge46_0.1 _ rfl) (x' := y235) (Kd.M_row HP46.1)
                                            rw [← Ny237.out] at HS46
                                            have HQ46 := Aside0.mk HS46
                                            clear HP46 HS46 hbk46 hok46
                                            refine start_ (n := 21) (S := fun w' => w'.cell? ⟨go33, (x47_2).toNat, none⟩ = some (.slice (some ⟨go44, 0, none⟩) (rd_L7 x10_3 x47_2).length c234_0)) (ds := [20]) #[false, false, false, false, false, false, false, false, false, false, false, false, false, false, false, false, false, false, false, false, false] (by kernel_rfl) rfl rfl (hx234_0) (fun hHeld => ?_); refine with_tabW clepsydralaw15_RouteSettles.tab14 clepsydralaw15_RouteSettles.bits14 (fun HT_ HW_ => ?_)
                                            generalize wr.drew = w45 at HO_10 BK223 HB GG44 HL234_0 HQ46 HR234_0 HX234_0 hf44_0 hx234_0 hx44_0 hHeld ⊢
                                            refine pure_ (i := 0) (N := some 63) (v := ?_) (a' := ?_) #[true, false, false, false, false, false, false, false, false, false, false, false, false, false, false, false, false, false, false, false, false] rfl rfl (any_of HT_.out (by kernel_rfl)) (fun _ _ _ h => h) (Or.inl ⟨by rfl, ?_⟩) ?_ ?_
                                            rotate_left
                                            · intro w'
                                              go_simp
                                              with_reducible rfl
                                            rotate_left
                                            · simp only [Act.put, List.setIfInBounds_toArray, List.set_cons_zero, List.set_cons_succ, i64_w, i32_w]
                                              rfl
                                            refine pure_ (i := 1) (N := some 64) (v := ?_) (a' := ?_) #[true, true, false, false, false, false, false, false, false, false, false, false, false, false, false, false, false, false, false, false, false] rfl rfl (any_of HT_.out (by kernel_rfl)) (fun _ _ _ h => h) (Or.inl ⟨by rfl, ?_⟩) ?_ ?_
                                            rotate_left
                                            · intro w'
                                              go_simp
                                              with_reducible rfl
                                            rotate_left
                                            · simp only [Act.put, List.setIfInBounds_toArray, List.set_cons_zero, List.set_cons_succ, i64_w, i32_w]
                                              rfl
                                            refine pure_ (i := 2) (N := some 65) (v := ?_) (a' := ?_) #[true, true, true, false, false, false, false, false, false, false, false, false, false, false, false, false, false, false, false, false, false] rfl rfl (any_of HT_.out (by kernel_rfl)) (fun _ _ _ h => h) (Or.inl ⟨by rfl, ?_⟩) ?_ ?_
                                            rotate_left
                                            · intro w'
                                              go_simp
                                              with_reducible rfl
                                            rotate_left
                                            · simp only [Act.put, List.setIfInBounds_toArray, List.set_cons_zero, List.set_cons_succ, i64_w, i32_w]
                                              rfl
                                            refine pure_ (i := 4) (N := some 67) (v := ?_) (a' := ?_) #[true, true, true, false, true, false, false, false, false, false, false, false, false, false, false, false, false, false, false, false, false] rfl rfl (any_of HT_.out (by kernel_rfl)) (fun _ _ _ h => h) (Or.inl ⟨by rfl, ?_⟩) ?_ ?_
                                            rotate_left
                                            · intro w'
                                              go_simp
                                              with_reducible rfl
                                            rotate_left
                                            · simp only [Act.put, List.setIfInBounds_toArray, List.set_cons_zero, List.set_cons_succ, i64_w, i32_w]
                                              rfl
                                            refine pure_ (i := 5) (N := some 68) (v := ?_) (a' := ?_) #[true, true, true, false, true, true, false, false, false, false, false, false, false, false, false, false, false, false, false, false, false] rfl rfl (any_of HT_.out (by kernel_rfl)) (fun _ _ _ h => h) (Or.inl ⟨by rfl, ?_⟩) ?_ ?_
                                            rotate_left
                                            · intro w'
                                              go_simp
                                              with_reducible rfl
                                            rotate_left
                                            · simp only [Act.put, List.setIfInBounds_toArray, List.set_cons_zero, List.set_cons_succ, i64_w, i32_w]
                                              rfl
                                            refine pure_ (i := 6) (N := some 69) (v := ?_) (a' := ?_) #[true, true, true, false, true, true, true, false, false, false, false, false, false, false, false, false, false, false, false, false, false] rfl rfl (any_of HT_.out (by kernel_rfl)) (fun _ _ _ h => h) (Or.inl ⟨by rfl, ?_⟩) ?_ ?_
                                            rotate_left
                                            · intro w'
                                              go_simp
                                              with_reducible rfl
                                            rotate_left
                                            · simp only [Act.put, List.setIfInBounds_toArray, List.set_cons_zero, List.set_cons_succ, i64_w, i32_w]
                                              rfl
                                            refine pure_ (i := 7) (N := some 70) (v := ?_) (a' := ?_) #[true, true, true, false, true, true, true, true, false, false, false, false, false, false, false, false, false, false, false, false, false] rfl rfl (any_of HT_.out (by kernel_rfl)) (fun _ _ _ h => h) (Or.inl ⟨by rfl, ?_⟩) ?_ ?_
                                            rotate_left
                                            · intro w'
                                              go_simp
                                              with_reducible rfl
                                            rotate_left
                                            · simp only [Act.put, List.setIfInBounds_toArray, List.set_cons_zero, List.set_cons_succ, i64_w, i32_w]
                                              rfl
                                            refine pure_ (i := 8) (N := some 71) (v := ?_) (a' := ?_) #[true, true, true, false, true, true, true, true, true, false, false, false, false, false, false, false, false, false, false, false, false] rfl rfl (any_of HT_.out (by kernel_rfl)) (fun _ _ _ h => h) (Or.inl ⟨by rfl, ?_⟩) ?_ ?_
                                            rotate_left
                                            · intro w'
                                              go_simp
                                              with_reducible rfl
                                            rotate_left
                                            · simp only [Act.put, List.setIfInBounds_toArray, List.set_cons_zero, List.set_cons_succ, i64_w, i32_w]
                                              rfl
                                            refine pure_ (i := 9) (N := some 72) (v := undef) (a' := ?_) #[true, true, true, false, true, true, true, true, true, true, false, false, false, false, false, false, false, false, false, false, false] rfl rfl (any_of HT_.out (by kernel_rfl)) (fun _ _ _ h => h) (Or.inr ⟨by rfl, rfl⟩) ?_ ?_
                                            rotate_left
                                            · simp only [Act.put, List.setIfInBounds_toArray, List.set_cons_zero, List.set_cons_succ, i64_w, i32_w]
                                              rfl
                                            refine pure_ (i := 10) (N := some 73) (v := undef) (a' := ?_) #[true, true, true, false, true, true, true, true, true, true, true, false, false, false, false, false, false, false, false, false, false] rfl rfl (any_of HT_.out (by kernel_rfl)) (fun _ _ _ h => h) (Or.inr ⟨by rfl, rfl⟩) ?_ ?_
                                            rotate_left
                                            · simp only [Act.put, List.setIfInBounds_toArray, List.set_cons_zero, List.set_cons_succ, i64_w, i32_w]
                                              rfl
                                            refine pure_ (i := 11) (N := some 74) (v := undef) (a' := ?_) #[true, true, true, false, true, true, true, true, true, true, true, true, false, false, false, false, false, false, false, false, false] rfl rfl (any_of HT_.out (by kernel_rfl)) (fun _ _ _ h => h) (Or.inr ⟨by rfl, rfl⟩) ?_ ?_
                                            rotate_left
                                            · simp only [Act.put, List.setIfInBounds_toArray, List.set_cons_zero, List.set_cons_succ, i64_w, i32_w]
                                              rfl
                                            refine pure_ (i := 12) (N := some 75) (v := undef) (a' := ?_) #[true, true, true, false, true, true, true, true, true, true, true, true, true, false, false, false, false, false, false, false, false] rfl rfl (any_of HT_.out (by kernel_rfl)) (fun _ _ _ h => h) (Or.inr ⟨by rfl, rfl⟩) ?_ ?_
                                            rotate_left
                                            · simp only [Act.put, List.setIfInBounds_toArray, List.set_cons_zero, List.set_cons_succ, i64_w, i32_w]
                                              rfl
                                            refine pure_ (i := 13) (N := some 76) (v := undef) (a' := ?_) #[true, true, true, false, true, true, true, true, true, true, true, true, true, true, false, false, false, false, false, false, false] rfl rfl (any_of HT_.out (by kernel_rfl)) (fun _ _ _ h => h) (Or.inr ⟨by rfl, rfl⟩) ?_ ?_
                                            rotate_left
                                            · simp only [Act.put, List.setIfInBounds_toArray, List.set_cons_zero, List.set_cons_succ, i64_w, i32_w]
                                              rfl
                                            refine pure_ (i := 14) (N := some 77) (v := undef) (a' := ?_) #[true, true, true, false, true, true, true, true, true, true, true, true, true, true, true, false, false, false, false, false, false] rfl rfl (any_of HT_.out (by kernel_rfl)) (fun _ _ _ h => h) (Or.inr ⟨by rfl, rfl⟩) ?_ ?_
                                            rotate_left
                                            · simp only [Act.put, List.setIfInBounds_toArray, List.set_cons_zero, List.set_cons_succ, i64_w, i32_w]
                                              rfl
                                            refine pure_ (i := 15) (N := some 78) (v := undef) (a' := ?_) #[true, true, true, false, true, true, true, true, true, true, true, true, true, true, true, true, false, false, false, false, false] rfl rfl (any_of HT_.out (by kernel_rfl)) (fun _ _ _ h => h) (Or.inr ⟨by rfl, rfl⟩) ?_ ?_
                                            rotate_left
                                            · simp only [Act.put, List.setIfInBounds_toArray, List.set_cons_zero, List.set_cons_succ, i64_w, i32_w]
                                              rfl
                                            refine pure_ (i := 16) (N := some 79) (v := undef) (a' := ?_) #[true, true, true, false, true, true, true, true, true, true, true, true, true, true, true, true, true, false, false, false, false] rfl rfl (any_of HT_.out (by kernel_rfl)) (fun _ _ _ h => h) (Or.inr ⟨by rfl, rfl⟩) ?_ ?_
                                            rotate_left
                                            · simp only [Act.put, List.setIfInBounds_toArray, List.set_cons_zero, List.set_cons_succ, i64_w, i32_w]
                                              rfl
                                            refine pure_ (i := 17) (N := some 80) (v := undef) (a' := ?_) #[true, true, true, false, true, true, true, true, true, true, true, true, true, true, true, true, true, true, false, false, false] rfl rfl (any_of HT_.out (by kernel_rfl)) (fun _ _ _ h => h) (Or.inr ⟨by rfl, rfl⟩) ?_ ?_
                                            rotate_left
                                            · simp only [Act.put, List.setIfInBounds_toArray, List.set_cons_zero, List.set_cons_succ, i64_w, i32_w]
                                              rfl
                                            refine pure_ (i := 18) (N := some 81) (v := ?_) (a' := ?_) #[true, true, true, false, true, true, true, true, true, true, true, true, true, true, true, true, true, true, true, false, false] rfl rfl (any_of HT_.out (by kernel_rfl)) (fun _ _ _ h => h) (Or.inl ⟨by rfl, ?_⟩) ?_ ?_
                                            rotate_left
                                            · intro w'
                                              go_simp
                                              with_reducible rfl
                                            rotate_left
                                            · simp only [Act.put, List.setIfInBounds_toArray, List.set_cons_zero, List.set_cons_succ, i64_w, i32_w]
                                              rfl
                                            refine take_ (i := 3) (N := some 66) (v := ?_) (a' := ?_) #[true, true, true, true, true, true, true, true, true, true, true, true, true, true, true, true, true, true, true, false, false] rfl rfl (take_ofW HT_.out HW_.out (by kernel_rfl)) (fun _ _ _ h => h) (Or.inl ⟨by rfl, ?_⟩) hHeld ?_ ?_
                                            rotate_left
                                            · intro w' s0
                                              go_simp
                                              with_reducible rfl
                                            rotate_left
                                            · simp only [Act.put, List.setIfInBounds_toArray, List.set_cons_zero, List.set_cons_succ, i64_w, i32_w]
                                              rfl
                                            refine pure_ (i := 19) (N := some 82) (v := ?_) (a' := ?_) #[true, true, true, true, true, true, true, true, true, true, true, true, true, true, true, true, true, true, true, true, false] rfl rfl (any_of HT_.out (by kernel_rfl)) (fun _ _ _ h => h) (Or.inl ⟨by rfl, ?_⟩) ?_ ?_
                                            rotate_left
                                            · intro w'
                                              go_simp
                                              with_reducible rfl
                                            rotate_left
                                            · simp only [Act.put, List.setIfInBounds_toArray, List.set_cons_zero, List.set_cons_succ, i64_w, i32_w]
                                              rfl
                                            refine last_ (i := 20) (N := none) #[true, true, true, true, true, true, true, true, true, true, true, true, true, true, true, true, true, true, true, true, true] rfl rfl (one_of HT_.out (by kernel_rfl)) (by decide) (fun K hK => ?_)
                                            refine skip_ (w1 := ?_) (by rfl) rfl ?_ ?_
                                            rotate_left
                                            · go_simp
                                              rfl
                                            refine hK.out _ _ ?_
                                            clear hK K
                                            refine done_ (done_of HT_.out (by kernel_rfl)) ?_
                                            try go_wp2
                                            (try simp only [← hl10_3])
                                            go_roundg k3
                                            case measure => have := HJ6.out; have := HK2.out; have := HK3.out; omega
                                            case rel => exact ⟨(y237), (wrap64 (x60_3 + 1)), (by first | rfl | (simp; done) | (simp [*]; done)), H', ⟨by have := HJ6.out; have := HK2.out; have := HK3.out; omega⟩, ⟨by (try simp only [hl10_2]); (try simp only [hl10_3]); (with_reducible repeat (first | apply Kd.S_alloc | apply Kd.S_drewN | apply Kd.S_drew)); exact HQ46.out⟩, ⟨by (try simp only [hl10_2]); (try simp only [hl10_3]); (with_reducible repeat (first | refine blk_drewN ?_ _ | refine blk_drew ?_ | refine blk_alloc ?_ _)); refine blk_far ?_ (by have h_ := Kd.R_ne HL234_0.out BK223.out (by decide); intro e_; exact h_ (by rw [e_]; rfl)) _; (with_reducible repeat (first | refine blk_drewN ?_ _ | refine blk_drew ?_ | refine blk_alloc ?_ _)); exact BK223.out⟩, ⟨by repeat (first | (with_reducible first | exact HB.out | apply below_alloc | apply pw_below_drewN | apply below_drew1 | refine below_set ?_ GB44.out | refine below_set ?_ GE223.out) | exact HB.out)⟩⟩
                                          · rw [if_neg c43] at H
                                            exact absurd H (by simp)
                                        · rw [if_neg c42] at H
                                          exact absurd H (by simp)
                                      · rw [if_neg c41] at H
                                        have c41b0 : (x47_2 == x60_3) = false := beq_eq_false_iff_ne.mpr c41
                                        have c41b1 : (x47_2 != x60_3) = true := bne_iff_ne.mpr c41
                                        by_cases c48 : x47_2 < (l3.length : Int)
                                        · rw [if_pos c48] at H
                                          have c48b0 : decide (x47_2 < (l3.length : Int)) = true := decide_eq_true c48
                                          clear c48
                                          obtain ⟨ji49, hji49⟩ : ∃ j_ : Int, (IntKind.u64.wrap (x60_3)) = j_ := ⟨_, rfl⟩
                                          replace H : (if 0 ≤ (ji49) then (if 0 ≤ x60_3 then (if x60_3 < ((rd_L7 x10_3 x47_2).length : Int) then (clepsydralaw15_RouteSettles.l1 k3 l1 l2 l3 (l1.length : Int) (x10_3.set (x47_2 : Int).toNat ((rd_L7 x10_3 x47_2).set (x60_3 : Int).toNat ((Go.bits .and .i64 (shr .i64 (rd l3 x47_2) (ji49)) 1) == 1))) x47_2 (y226.length : Int) x47_2 ((rd_L7 y232 x47_2).length : Int) (wrap64 (x60_3 + 1)) a0_0 a0_1 a0_2 a0_3 a0_4 a0_5 a0_6 a0_7 a0_8 a0_9 a0_10 a0_11) else (none)) else (none)) else (none)) = some r := by first | (rw [hji49] at H; exact H) | (simp only [hji49] at H ⊢; exact H)
                                          by_cases c50 : 0 ≤ (ji49)
                                          · rw [if_pos c50] at H
                                            have c50b0 := eq_true c50
                                            have c50b1 : decide (0 ≤ (ji49)) = true := decide_eq_true c50
                                            clear c50
                                            obtain ⟨ji51, hji51⟩ : ∃ j_ : Int, (shr .i64 (rd l3 x47_2) (ji49)) = j_ := ⟨_, rfl⟩
                                            replace H : (if 0 ≤ x60_3 then (if x60_3 < ((rd_L7 x10_3 x47_2).length : Int) then (clepsydralaw15_RouteSettles.l1 k3 l1 l2 l3 (l1.length : Int) (x10_3.set (x47_2 : Int).toNat ((rd_L7 x10_3 x47_2).set (x60_3 : Int).toNat ((Go.bits .and .i64 (ji51) 1) == 1))) x47_2 (y226.length : Int) x47_2 ((rd_L7 y232 x47_2).length : Int) (wrap64 (x60_3 + 1)) a0_0 a0_1 a0_2 a0_3 a0_4 a0_5 a0_6 a0_7 a0_8 a0_9 a0_10 a0_11) else (none)) else (none)) = some r := by first | (rw [hji51] at H; exact H) | (simp only [hji51] at H ⊢; exact H)
                                            have hji51_ : ((rd l3 x47_2) / 2 ^ min (ji49).toNat 64) = ji51 := hji51
                                            have hji51z : (ji49) ≤ 64 → ((rd l3 x47_2) / 2 ^ (ji49).toNat) = ji51 := shr_small hji51
                                            by_cases c52 : 0 ≤ x60_3
                                            · rw [if_pos c52] at H
                                              have c52b0 : decide (0 ≤ x60_3) = true := decide_eq_true c52
                                              clear c52
                                              by_cases c53 : x60_3 < ((rd_L7 x10_3 x47_2).length : Int)
                                              · rw [if_pos c53] at H
                                                have c53b0 : decide (x60_3 < ((rd_L7 x10_3 x47_2).length : Int)) = true := decide_eq_true c53
                                                clear c53
                                                obtain ⟨y239, hy239⟩ : ∃ y_ : List Bool, y_ = ((rd_L7 x10_3 x47_2).set (x60_3 : Int).toNat ((Go.bits .and .i64 (ji51) 1) == 1)) := ⟨_, rfl⟩
                                                replace H : (clepsydralaw15_RouteSettles.l1 k3 l1 l2 l3 (l1.length : Int) (x10_3.set (x47_2 : Int).toNat y239) x47_2 (y226.length : Int) x47_2 ((rd_L7 y232 x47_2).length : Int) (wrap64 (x60_3 + 1)) a0_0 a0_1 a0_2 a0_3 a0_4 a0_5 a0_6 a0_7 a0_8 a0_9 a0_10 a0_11) = some r := by first | (rw [hy239]; with_reducible exact H) | (have H2_ := (Option.bind_some _ _).symm.trans H; rw [hy239]; with_reducible exact H2_) | (have H2_ := (Option.bind_some _ _).symm.trans H; with_reducible exact H2_) | with_reducible exact H | (rw [hy239]; exact H) | exact H
                                                have Ny239 := Aside0.mk hy239
                                                clear hy239
                                                obtain ⟨y241, hy241⟩ : ∃ y_ : List (List Bool), y_ = (x10_3.set (x47_2 : Int).toNat y239) := ⟨_, rfl⟩
                                                replace H : (clepsydralaw15_RouteSettles.l1 k3 l1 l2 l3 (l1.length : Int) y241 x47_2 (y226.length : Int) x47_2 ((rd_L7 y232 x47_2).length : Int) (wrap64 (x60_3 + 1)) a0_0 a0_1 a0_2 a0_3 a0_4 a0_5 a0_6 a0_7 a0_8 a0_9 a0_10 a0_11) = some r := by first | (rw [hy241]; with_reducible exact H) | (have H2_ := (Option.bind_some _ _).symm.trans H; rw [hy241]; with_reducible exact H2_) | (have H2_ := (Option.bind_some _ _).symm.trans H; with_reducible exact H2_) | with_reducible exact H | (rw [hy241]; exact H) | exact H
                                                have Ny241 := Aside0.mk hy241
                                                clear hy241
                                                have H' := Aside0.mk H
                                                clear H
                                                try go_wp2
                                                have n0_ := Aside0.mk (Kd.S_drew HO_10.out)
                                                have n1_ := Aside0.mk (blk_drew BK223.out)
                                                have n2_ := Aside0.mk (below_drew1 HB.out)
                                                clear HO_10
                                                clear BK223
                                                clear HB
                                                have HO_10 := n0_
                                                have BK223 := n1_
                                                have HB := n2_
                                                clear n0_ n1_ n2_
                                                have p234 : 0 ≤ (x47_2 : Int) := of_decide_eq_true (by first | (with_reducible assumption) | assumption)
                                                have q234 : x47_2 < (x10_3.length : Int) := of_decide_eq_true (by first | (with_reducible assumption) | assumption)
                                                obtain ⟨ad234, A234_0, c234_0, e234, hx234_0, hl234_0, hi234_0⟩ := at_L7 (Kd.S_reads' HO_10.out).2.2 x47_2 p234 q234
                                                obtain rfl : (⟨go33, 0, none⟩ : Addr) = ad234 := (by injection e234)
                                                obtain ⟨ce234, hce234, hMe234, hcc234⟩ := Kd.S_get HO_10.out [] x47_2 p234 (by first | exact q234 | exact of_decide_eq_true (by first | (with_reducible assumption) | assumption) | (have e_ := (Kd.S_reads' HO_10.out).1; omega))
                                                obtain ⟨ve234_0, rfl, ge234_0⟩ := hMe234
                                                have hv234_0 := hcc234 0 _ rfl
                                                rw [Nat.add_zero, show ((Kd.slice 4 Kd.bool)).sz = 1 from rfl, Nat.mul_one] at hv234_0
                                                replace hv234_0 := Option.some.inj (hv234_0.symm.trans hx234_0)
                                                rw [hv234_0] at ge234_0
                                                have HL234_0 := Aside0.mk (show Kd.R Kd.bool 4 _ _ _ _ (rd_L7 x10_3 x47_2) from ge234_0)
                                                clear hv234_0 ge234_0
                                                have HX234_0 := Aside0.mk hx234_0
                                                clear hcc234 hce234
                                                (first | simp only [add_plain] at hx234_0 | simp only [add_at] at hx234_0 | simp only [Addr.add, Nat.zero_add] at hx234_0 | skip)
                                                have HR234_0 := Aside0.mk hi234_0
                                                have HC234_0 := Aside0.mk hl234_0
                                                clear hi234_0 hl234_0
                                                replace p234 := eq_true p234
                                                replace q234 := eq_true q234
                                                have p238 : 0 ≤ (x47_2 : Int) := of_decide_eq_true (by first | (with_reducible assumption) | assumption)
                                                have q238 : x47_2 < (l3.length : Int) := of_decide_eq_true (by first | (with_reducible assumption) | assumption)
                                                obtain ⟨ad238, e238, hx238_0⟩ := Kd.at_int HR3.out x47_2 p238 q238
                                                have hw238_0 := hx238_0
                                                cases e238
                                                replace hx238_0 := (HB.out.cell (World.block_lt_of_cell? w _ hx238_0)).trans hx238_0
                                                replace p238 := eq_true p238
                                                replace q238 := eq_true q238
                                                have p54 : 0 ≤ (x60_3 : Int) := of_decide_eq_true (by first | (with_reducible assumption) | assumption)
                                                have q54 : (x60_3 : Int) < (((rd_L7 x10_3 x47_2).length : Int) : Int) := of_decide_eq_true (by first | (with_reducible assumption) | assumption)
                                                obtain ⟨go54, co54, eo54, gb54, gl54, cl54, HG54⟩ := Kd.R_form HL234_0.out (by omega)
                                                (first | cases eo54 | (injection eo54 with ea_ en_ ec_; (first | subst ea_ | (injection ea_ with ea_; subst ea_)); subst ec_; clear en_))
                                                have GB54 := Aside0.mk gb54
                                                have GG54 := Aside0.mk HG54
                                                clear gb54 gl54 HG54
                                                obtain ⟨hx54_0, hf54_0⟩ := Kd.R_celln false HL234_0.out (x60_3 : Int) p54 q54
                                                replace p54 := eq_true p54
                                                replace q54 := eq_true q54
                                                have hq56 : (x47_2 : Int) < (x10_3.length : Int) := (by have h_ : (x47_2 : Int) < ((x10_3.length : Int) : Int) := of_decide_eq_true (by first | (with_reducible assumption) | assumption); first | exact h_ | (have e_ := (Kd.S_reads' HO_10.out).1; omega) | simpa only [List.length_set, List.length_set] using h_)
                                                obtain ⟨oki56, ce56, hcl56, hM56, hcc56, hok56, hbk56⟩ := Kd.S_borrow HO_10.out [] (x47_2 : Int) (of_decide_eq_true (by first | (with_reducible assumption) | assumption)) hq56
                                                obtain ⟨ve56_0, rfl, ge56_0⟩ := hM56
                                                have hv56 := hcc56 0 _ rfl
                                                rw [Nat.add_zero, show ((Kd.slice 4 Kd.bool)).sz = 1 from rfl, Nat.mul_one] at hv56
                                                replace hv56 := Option.some.inj (hv56.symm.trans HX234_0.out)
                                                subst hv56
                                                clear hcc56 hcl56
                                                replace ge56_0 := (show Kd.R Kd.bool 4 _ _ _ _ (rd_L7 x10_3 x47_2) from ge56_0)
                                                have HP56 := Kd.R_putg ge56_0 (x60_3 : Int) ((Go.bits .and .i64 (ji51) 1) == 1)
                                                rw [← Ny239.out] at HP56
                                                have HS56 := hbk56 HP56.2 (fun k_ e_ => by injection e_ with e_; subst e_; exact ge56_0.1 _ rfl) (x' := y239) (Kd.M_row HP56.1)
                                                rw [← Ny241.out] at HS56
                                                have HQ56 := Aside0.mk HS56
                                                clear HP56 HS56 hbk56 hok56
                                                refine start_ (n := 21) (S := fun w' => w'.cell? ⟨go33, (x47_2).toNat, none⟩ = some (.slice (some ⟨go54, 0, none⟩) (rd_L7 x10_3 x47_2).length c234_0) ∧ w'.cell? (ad238.add (x47_2).toNat) = some (.int .i64 (rd l3 x47_2))) (ds := [20]) #[false, false, false, false, false, false, false, false, false, false, false, false, false, false, false, false, false, false, false, false, false] (by kernel_rfl) rfl rfl ⟨hx234_0, ((HB.out.cell (World.block_lt_of_cell? w _ hw238_0)).trans hw238_0)⟩ (fun hHeld => ?_); refine with_tabW clepsydralaw15_RouteSettles.tab14 clepsydralaw15_RouteSettles.bits14 (fun HT_ HW_ => ?_)
                                                generalize wr.drew = w55 at HO_10 BK223 HB GG54 HL234_0 HQ56 HR234_0 HX234_0 hf54_0 hx234_0 hx238_0 hx54_0 hHeld ⊢
                                                refine pure_ (i := 0) (N := some 63) (v := ?_) (a' := ?_) #[true, false, false, false, false, false, false, false, false, false, false, false, false, false, false, false, false, false, false, false, false] rfl rfl (any_of HT_.out (by kernel_rfl)) (fun _ _ _ h => h) (Or.inl ⟨by rfl, ?_⟩) ?_ ?_
                                                rotate_left
                                                · intro w'
                                                  go_simp
                                                  with_reducible rfl
                                                rotate_left
                                                · simp only [Act.put, List.setIfInBounds_toArray, List.set_cons_zero, List.set_cons_succ, i64_w, i32_w]
                                                  rfl
                                                refine pure_ (i := 1) (N := some 64) (v := ?_) (a' := ?_) #[true, true, false, false, false, false, false, false, false, false, false, false, false, false, false, false, false, false, false, false, false] rfl rfl (any_of HT_.out (by kernel_rfl)) (fun _ _ _ h => h) (Or.inl ⟨by rfl, ?_⟩) ?_ ?_
                                                rotate_left
                                                · intro w'
                                                  go_simp
                                                  with_reducible rfl
                                                rotate_left
                                                · simp only [Act.put, List.setIfInBounds_toArray, List.set_cons_zero, List.set_cons_succ, i64_w, i32_w]
                                                  rfl
                                                refine pure_ (i := 2) (N := some 65) (v := ?_) (a' := ?_) #[true, true, true, false, false, false, false, false, false, false, false, false, false, false, false, false, false, false, false, false, false] rfl rfl (any_of HT_.out (by kernel_rfl)) (fun _ _ _ h => h) (Or.inl ⟨by rfl, ?_⟩) ?_ ?_
                                                rotate_left
                                                · intro w'
                                                  go_simp
                                                  with_reducible rfl
                                                rotate_left
                                                · simp only [Act.put, List.setIfInBounds_toArray, List.set_cons_zero, List.set_cons_succ, i64_w, i32_w]
                                                  rfl
                                                refine pure_ (i := 4) (N := some 67) (v := ?_) (a' := ?_) #[true, true, true, false, true, false, false, false, false, false, false, false, false, false, false, false, false, false, false, false, false] rfl rfl (any_of HT_.out (by kernel_rfl)) (fun _ _ _ h => h) (Or.inl ⟨by rfl, ?_⟩) ?_ ?_
                                                rotate_left
                                                · intro w'
                                                  go_simp
                                                  with_reducible rfl
                                                rotate_left
                                                · simp only [Act.put, List.setIfInBounds_toArray, List.set_cons_zero, List.set_cons_succ, i64_w, i32_w]
                                                  rfl
                                                refine pure_ (i := 5) (N := some 68) (v := ?_) (a' := ?_) #[true, true, true, false, true, true, false, false, false, false, false, false, false, false, false, false, false, false, false, false, false] rfl rfl (any_of HT_.out (by kernel_rfl)) (fun _ _ _ h => h) (Or.inl ⟨by rfl, ?_⟩) ?_ ?_
                                                rotate_left
                                                · intro w'
                                                  go_simp
                                                  with_reducible rfl
                                                rotate_left
                                                · simp only [Act.put, List.setIfInBounds_toArray, List.set_cons_zero, List.set_cons_succ, i64_w, i32_w]
                                                  rfl
                                                refine pure_ (i := 6) (N := some 69) (v := ?_) (a' := ?_) #[true, true, true, false, true, true, true, false, false, false, false, false, false, false, false, false, false, false, false, false, false] rfl rfl (any_of HT_.out (by kernel_rfl)) (fun _ _ _ h => h) (Or.inl ⟨by rfl, ?_⟩) ?_ ?_
                                                rotate_left
                                                · intro w'
                                                  go_simp
                                                  with_reducible rfl
                                                rotate_left
                                                · simp only [Act.put, List.setIfInBounds_toArray, List.set_cons_zero, List.set_cons_succ, i64_w, i32_w]
                                                  rfl
                                                refine pure_ (i := 7) (N := some 70) (v := ?_) (a' := ?_) #[true, true, true, false, true, true, true, true, false, false, false, false, false, false, false, false, false, false, false, false, false] rfl rfl (any_of HT_.out (by kernel_rfl)) (fun _ _ _ h => h) (Or.inl ⟨by rfl, ?_⟩) ?_ ?_
                                                rotate_left
                                                · intro w'
                                                  go_simp
                                                  with_reducible rfl
                                                rotate_left
                                                · simp only [Act.put, List.setIfInBounds_toArray, List.set_cons_zero, List.set_cons_succ, i64_w, i32_w]
                                                  rfl
                                                refine pure_ (i := 8) (N := some 71) (v := ?_) (a' := ?_) #[true, true, true, false, true, true, true, true, true, false, false, false, false, false, false, false, false, false, false, false, false] rfl rfl (any_of HT_.out (by kernel_rfl)) (fun _ _ _ h => h) (Or.inl ⟨by rfl, ?_⟩) ?_ ?_
                                                rotate_left
                                                · intro w'
                                                  go_simp
                                                  with_reducible rfl
                                                rotate_left
                                                · simp only [Act.put, List.setIfInBounds_toArray, List.set_cons_zero, List.set_cons_succ, i64_w, i32_w]
                                                  rfl
                                                refine pure_ (i := 9) (N := some 72) (v := ?_) (a' := ?_) #[true, true, true, false, true, true, true, true, true, true, false, false, false, false, false, false, false, false, false, false, false] rfl rfl (any_of HT_.out (by kernel_rfl)) (fun _ _ _ h => h) (Or.inl ⟨by rfl, ?_⟩) ?_ ?_
                                                rotate_left
                                                · intro w'
                                                  go_simp
                                                  with_reducible rfl
                                                rotate_left
                                                · simp only [Act.put, List.setIfInBounds_toArray, List.set_cons_zero, List.set_cons_succ, i64_w, i32_w]
                                                  rfl
                                                refine pure_ (i := 10) (N := some 73) (v := ?_) (a' := ?_) #[true, true, true, false, true, true, true, true, true, true, true, false, false, false, false, false, false, false, false, false, false] rfl rfl (any_of HT_.out (by kernel_rfl)) (fun _ _ _ h => h) (Or.inl ⟨by rfl, ?_⟩) ?_ ?_
                                                rotate_left
                                                · intro w'
                                                  go_simp
                                                  with_reducible rfl
                                                rotate_left
                                                · simp only [Act.put, List.setIfInBounds_toArray, List.set_cons_zero, List.set_cons_succ, i64_w, i32_w]
                                                  rfl
                                                refine pure_ (i := 11) (N := some 74) (v := ?_) (a' := ?_) #[true, true, true, false, true, true, true, true, true, true, true, true, false, false, false, false, false, false, false, false, false] rfl rfl (any_of HT_.out (by kernel_rfl)) (fun _ _ _ h => h) (Or.inl ⟨by rfl, ?_⟩) ?_ ?_
                                                rotate_left
                                                · intro w'
                                                  go_simp
                                                  with_reducible rfl
                                                rotate_left
                                                · simp only [Act.put, List.setIfInBounds_toArray, List.set_cons_zero, List.set_cons_succ, i64_w, i32_w]
                                                  rfl
                                                refine pure_ (i := 13) (N := some 76) (v := ?_) (a' := ?_) #[true, true, true, false, true, true, true, true, true, true, true, true, false, true, false, false, false, false, false, false, false] rfl rfl (any_of HT_.out (by kernel_rfl)) (fun _ _ _ h => h) (Or.inl ⟨by rfl, ?_⟩) ?_ ?_
                                                rotate_left
                                                · intro w'
                                                  go_simp
                                                  with_reducible rfl
                                                rotate_left
                                                · simp only [Act.put, List.setIfInBounds_toArray, List.set_cons_zero, List.set_cons_succ, i64_w, i32_w]
                                                  rfl
                                                refine pure_ (i := 14) (N := some 77) (v := ?_) (a' := ?_) #[true, true, true, false, true, true, true, true, true, true, true, true, false, true, true, false, false, false, false, false, false] rfl rfl (any_of HT_.out (by kernel_rfl)) (fun _ _ _ h => h) (Or.inl ⟨by rfl, ?_⟩) ?_ ?_
                                                rotate_left
                                                · intro w'
                                                  go_simp
                                                  with_reducible rfl
                                                rotate_left
                                                · simp only [Act.put, List.setIfInBounds_toArray, List.set_cons_zero, List.set_cons_succ, i64_w, i32_w]
                                                  rfl
                                                refine take_ (i := 3) (N := some 66) (v := ?_) (a' := ?_) #[true, true, true, true, true, true, true, true, true, true, true, true, false, true, true, false, false, false, false, false, false] rfl rfl (take_ofW HT_.out HW_.out (by kernel_rfl)) (fun _ _ _ h => h) (Or.inl ⟨by rfl, ?_⟩) hHeld ?_ ?_
                                                rotate_left
                                                · rintro w' ⟨s0, s1⟩
                                                  go_simp
                                                  with_reducible rfl
                                                rotate_left
                                                · simp only [Act.put, List.setIfInBounds_toArray, List.set_cons_zero, List.set_cons_succ, i64_w, i32_w]
                                                  rfl
                                                refine take_ (i := 12) (N := some 75) (v := ?_) (a' := ?_) #[true, true, true, true, true, true, true, true, true, true, true, true, true, true, true, false, false, false, false, false, false] rfl rfl (take_ofW HT_.out HW_.out (by kernel_rfl)) (fun _ _ _ h => h) (Or.inl ⟨by rfl, ?_⟩) hHeld ?_ ?_
                                                rotate_left
                                                · rintro w' ⟨s0, s1⟩
                                                  go_simp
                                                  with_reducible rfl
                                                rotate_left
                                                · simp only [Act.put, List.setIfInBounds_toArray, List.set_cons_zero, List.set_cons_succ, i64_w, i32_w]
                                                  rfl
                                                refine pure_ (i := 15) (N := some 78) (v := ?_) (a' := ?_) #[true, true, true, true, true, true, true, true, true, true, true, true, true, true, true, true, false, false, false, false, false] rfl rfl (any_of HT_.out (by kernel_rfl)) (fun _ _ _ h => h) (Or.inl ⟨by rfl, ?_⟩) ?_ ?_
                                                rotate_left
                                                · intro w'
                                                  go_simp
                                                  with_reducible rfl
                                                rotate_left
                                                · simp only [Act.put, List.setIfInBounds_toArray, List.set_cons_zero, List.set_cons_succ, i64_w, i32_w]
                                                  rfl
                                                refine pure_ (i := 16) (N := some 79) (v := ?_) (a' := ?_) #[true, true, true, true, true, true, true, true, true, true, true, true, true, true, true, true, true, false, false, false, false] rfl rfl (any_of HT_.out (by kernel_rfl)) (fun _ _ _ h => h) (Or.inl ⟨by rfl, ?_⟩) ?_ ?_
                                                rotate_left
                                                · intro w'
                                                  go_simp
                                                  with_reducible rfl
                                                rotate_left
                                                · simp only [Act.put, List.setIfInBounds_toArray, List.set_cons_zero, List.set_cons_succ, i64_w, i32_w]
                                                  rfl
                                                refine pure_ (i := 17) (N := some 80) (v := ?_) (a' := ?_) #[true, true, true, true, true, true, true, true, true, true, true, true, true, true, true, true, true, true, false, false, false] rfl rfl (any_of HT_.out (by kernel_rfl)) (fun _ _ _ h => h) (Or.inl ⟨by rfl, ?_⟩) ?_ ?_
                                                rotate_left
                                                · intro w'
                                                  go_simp
                                                  with_reducible rfl
                                                rotate_left
                                                · simp only [Act.put, List.setIfInBounds_toArray, List.set_cons_zero, List.set_cons_succ, i64_w, i32_w]
                                                  rfl
                                                refine pure_ (i := 18) (N := some 81) (v := ?_) (a' := ?_) #[true, true, true, true, true, true, true, true, true, true, true, true, true, true, true, true, true, true, true, false, false] rfl rfl (any_of HT_.out (by kernel_rfl)) (fun _ _ _ h => h) (Or.inl ⟨by rfl, ?_⟩) ?_ ?_
                                                rotate_left
                                                · intro w'
                                                  go_simp
                                                  with_reducible rfl
                                                rotate_left
                                                · simp only [Act.put, List.setIfInBounds_toArray, List.set_cons_zero, List.set_cons_succ, i64_w, i32_w]
                                                  rfl
                                                refine pure_ (i := 19) (N := some 82) (v := ?_) (a' := ?_) #[true, true, true, true, true, true, true, true, true, true, true, true, true, true, true, true, true, true, true, true, false] rfl rfl (any_of HT_.out (by kernel_rfl)) (fun _ _ _ h => h) (Or.inl ⟨by rfl, ?_⟩) ?_ ?_
                                                rotate_left
                                                · intro w'
                                                  go_simp
                                                  with_reducible rfl
                                                rotate_left
                                                · simp only [Act.put, List.setIfInBounds_toArray, List.set_cons_zero, List.set_cons_succ, i64_w, i32_w]
                                                  rfl
                                                refine last_ (i := 20) (N := none) #[true, true, true, true, true, true, true, true, true, true, true, true, true, true, true, true, true, true, true, true, true] rfl rfl (one_of HT_.out (by kernel_rfl)) (by decide) (fun K hK => ?_)
                                                refine skip_ (w1 := ?_) (by rfl) rfl ?_ ?_
                                                rotate_left
                                                · go_simp
                                                  rfl
                                                refine hK.out _ _ ?_
                                                clear hK K
                                                refine done_ (done_of HT_.out (by kernel_rfl)) ?_
                                                try go_wp2
                                                (try simp only [← hl10_3])
                                                go_roundg k3
                                                case measure => have := HJ6.out; have := HK2.out; have := HK3.out; omega
                                                case rel => exact ⟨(y241), (wrap64 (x60_3 + 1)), (by first | rfl | (simp; done) | (simp [*]; done)), H', ⟨by have := HJ6.out; have := HK2.out; have := HK3.out; omega⟩, ⟨by (try simp only [hl10_2]); (try simp only [hl10_3]); (with_reducible repeat (first | apply Kd.S_alloc | apply Kd.S_drewN | apply Kd.S_drew)); exact HQ56.out⟩, ⟨by (try simp only [hl10_2]); (try simp only [hl10_3]); (with_reducible repeat (first | refine blk_drewN ?_ _ | refine blk_drew ?_ | refine blk_alloc ?_ _)); refine blk_far ?_ (by have h_ := Kd.R_ne HL234_0.out BK223.out (by decide); intro e_; exact h_ (by rw [e_]; rfl)) _; (with_reducible repeat (first | refine blk_drewN ?_ _ | refine blk_drew ?_ | refine blk_alloc ?_ _)); exact BK223.out⟩, ⟨by repeat (first | (with_reducible first | exact HB.out | apply below_alloc | apply pw_below_drewN | apply below_drew1 | refine below_set ?_ GB54.out | refine below_set ?_ GE223.out) | exact HB.out)⟩⟩
                                              · rw [if_neg c53] at H
                                                exact absurd H (by simp)
                                            · rw [if_neg c52] at H
                                              exact absurd H (by simp)
                                          · rw [if_neg c50] at H
                                            exact absurd H (by simp)
                                        · rw [if_neg c48] at H
                                          exact absurd H (by simp)
                                    · rw [if_neg c40] at H
                                      exact absurd H (by simp)
                                  · rw [if_neg c39] at H
                                    exact absurd H (by simp)
                                · rw [if_neg c38] at H
                                  have c38b0 : decide (x60_3 < ((rd_L7 y232 x47_2).length : Int)) = false := decide_eq_false c38
                                  clear c38
                                  have H' := Aside0.mk H
                                  clear H
                                  go_wp2
                                  (try simp only [← hl10_2, ← hl10_3])
                                  go_roundg k3
                                  case measure => have := HJ6.out; have := HK2.out; have := HK3.out; omega
                                  case rel => exact ⟨(x10_3), (wrap64 (x47_2 + 1)), (by first | rfl | (simp; done) | (simp [*]; done)), H', ⟨by have := HJ6.out; have := HK2.out; have := HK3.out; omega⟩, ⟨by (try simp only [hl10_2]); (try simp only [hl10_3]); (with_reducible repeat (first | apply Kd.S_alloc | apply Kd.S_drewN | apply Kd.S_drew)); exact HO_10.out⟩, ⟨by (try simp only [hl10_2]); (try simp only [hl10_3]); (with_reducible repeat (first | refine blk_drewN ?_ _ | refine blk_drew ?_ | refine blk_alloc ?_ _)); exact BK223.out⟩, ⟨by repeat (first | (with_reducible first | exact HB.out | apply below_alloc | apply pw_below_drewN | apply below_drew1 | refine below_set ?_ GE223.out) | exact HB.out)⟩⟩
                          · rw [if_neg c32] at H
                            exact absurd H (by simp)
                        · rw [if_neg c31] at H
                          exact absurd H (by simp)
                      · rw [if_neg c30] at H
                        exact absurd H (by simp)
                    · rw [if_neg c29] at H
                      exact absurd H (by simp)
                  · rw [if_neg c28] at H
                    have c28b0 : decide (x47_2 < (y226.length : Int)) = false := decide_eq_false c28
                    (try have c28b9 : decide (x47_2 < (x10_2.length : Int)) = false := by rw [← hl10_2]; exact c28b0)
                    clear c28
                    obtain ⟨y242, hy242⟩ : ∃ y_ : List Int, y_ = (([] : List Int)) := ⟨_, rfl⟩
                    replace H : (if y242.length + l1.length < 17592186044416 then (clepsydralaw15_RouteSettles.l2 k2 l2 (l1.length : Int) x10_2 (y242 ++ l1) 0 a0_0 a0_1 a0_2 a0_3 a0_4 a0_5 a0_6 a0_7 a0_8 a0_9 a0_10 a0_11) else (none)) = some r := by first | (rw [hy242]; with_reducible exact H) | (have H2_ := (Option.bind_some _ _).symm.trans H; rw [hy242]; with_reducible exact H2_) | (have H2_ := (Option.bind_some _ _).symm.trans H; with_reducible exact H2_) | with_reducible exact H | (rw [hy242]; exact H) | exact H
                    have Ny242 := Aside0.mk hy242
                    clear hy242
                    by_cases c58 : y242.length + l1.length < 17592186044416
                    · rw [if_pos c58] at H
                      have LMc58 := Aside0.mk c58
                      clear c58
                      obtain ⟨y245, hy245⟩ : ∃ y_ : List Int, y_ = (y242 ++ l1) := ⟨_, rfl⟩
                      replace H : (clepsydralaw15_RouteSettles.l2 k2 l2 (l1.length : Int) x10_2 y245 0 a0_0 a0_1 a0_2 a0_3 a0_4 a0_5 a0_6 a0_7 a0_8 a0_9 a0_10 a0_11) = some r := by first | (rw [hy245]; with_reducible exact H) | (have H2_ := (Option.bind_some _ _).symm.trans H; rw [hy245]; with_reducible exact H2_) | (have H2_ := (Option.bind_some _ _).symm.trans H; with_reducible exact H2_) | with_reducible exact H | (rw [hy245]; exact H) | exact H
                      have Ny245 := Aside0.mk hy245
                      clear hy245
                      have H' := Aside0.mk H
                      clear H
                      go_wp2_with (first | ((with_reducible refine gate_dst (N := 85) rfl ?_); (try (refine gate_guard (by rfl) ?_; dsimp only)); refine Kd.R_lit (Kd.int .i64) _ 3 ?hg (N := 85) ?hd (xs := ([] : List Int)) (inner := []) (ok := fun _ => True) (okp := fun _ => True) ?hr ?hp (fun _ hk => hk) trivial (Below.refl _ _) (Nat.le_refl _) (by simp) ?_; (case hd => rfl); (case hg => rfl); (case hr => first | (go_simp; done) | (go_simp; rfl)); (case hp => exact (Reps.none _ _)); intro v243 w59 ho60 hb hg_ hnew_; clear hg_ hnew_; (first | rw [← Ny242.out] at ho60 | (simp only [Int.reduceToNat] at ho60; rw [← Ny242.out] at ho60)); have n0_ := Aside0.mk (Kd.S_below (by (with_reducible repeat (first | apply Kd.S_alloc | apply Kd.S_drewN | apply Kd.S_drew)); exact HO_10.out) hb); have n1_ := Aside0.mk (Kd.R_lower ho60 (below_size (by repeat (first | (with_reducible first | exact HB.out | apply below_alloc | apply pw_below_drewN | apply below_drew1 | refine below_set ?_ GE223.out) | exact HB.out)))); have n2_ := Aside0.mk (blk_below (g := gb223) (o := .cells #[.int .i64 a0_0, .int .i64 a0_1, .int .i64 a0_2, .int .i64 a0_3, .int .i64 a0_4, .int .i64 a0_5, .int .i64 a0_6, .int .i64 a0_7, .int .i64 a0_8, .int .i64 a0_9, .int .i64 a0_10, .int .i64 a0_11] 23 (0, 0)) (by (with_reducible repeat (first | refine blk_drewN ?_ _ | refine blk_drew ?_ | refine blk_alloc ?_ _)); exact BK223.out) hb); have n3_ := Aside0.mk (below_step (by repeat (first | (with_reducible first | exact HB.out | apply below_alloc | apply pw_below_drewN | apply below_drew1 | refine below_set ?_ GE223.out) | exact HB.out)) hb); clear HO_10; clear BK223; clear HB; have HO_10 := n0_; have HO244 := n1_; have BK223 := n2_; have HB := n3_; clear n0_ n1_ n2_ n3_; clear hb ho60) | ((with_reducible refine gate_builtin (b := .append) (xs := #[.tmp 85, .tmp 86]) rfl ?_); (try (refine gate_guard (by rfl) ?_; dsimp only)); at_builtin; refine Kd.R_append_rows (Kd.int .i64) (w0 := w) w.heap.size rfl (.tmp 85) (.tmp 86) 24 3 (.int .i64 0) 8 rfl Try.underlying24 info3 rfl (by decide) (by omega) v243 y242 l1 _ _ _ (fun _ => True) (fun _ => False) rfl rfl ?aO ?aR (fun _ _ h => h) (fun _ h => h.elim) ?aF ?aB ?aS ?aL ?_; (case aR => repeat (first | exact (Kd.C_below HR1.out HB.out) | (with_reducible refine Kd.C_alloc ?_ _) | (with_reducible refine Kd.C_drewN ?_ _) | (with_reducible refine Kd.C_drew ?_))); (case aB => exact (by repeat (first | (with_reducible first | exact HB.out | apply below_alloc | apply pw_below_drewN | apply below_drew1 | refine below_set ?_ GE223.out) | exact HB.out))); (case aF => exact (fun _ _ => trivial)); (case aO => exact (by (with_reducible repeat (first | apply Kd.R_alloc | apply Kd.R_drewN | apply Kd.R_drew)); exact HO244.out)); (case aS => exact (below_size (by repeat (first | (with_reducible first | exact HB.out | apply below_alloc | apply pw_below_drewN | apply below_drew1 | refine below_set ?_ GE223.out) | exact HB.out)))); (case aL => have := LMc58.out; omega); intro v246 w61 ho hb hg hat; rw [← Ny245.out] at ho; have n0_ := Aside0.mk (Kd.S_over' (by (with_reducible repeat (first | apply Kd.S_alloc | apply Kd.S_drewN | apply Kd.S_drew)); exact HO_10.out) (Kd.R_typed (by (with_reducible repeat (first | apply Kd.R_alloc | apply Kd.R_drewN | apply Kd.R_drew)); exact HO244.out)) (by decide) hg); have n1_ := Aside0.mk (blk_grown (g := gb223) (o := .cells #[.int .i64 a0_0, .int .i64 a0_1, .int .i64 a0_2, .int .i64 a0_3, .int .i64 a0_4, .int .i64 a0_5, .int .i64 a0_6, .int .i64 a0_7, .int .i64 a0_8, .int .i64 a0_9, .int .i64 a0_10, .int .i64 a0_11] 23 (0, 0)) (by (with_reducible repeat (first | refine blk_drewN ?_ _ | refine blk_drew ?_ | refine blk_alloc ?_ _)); exact BK223.out) hg (Kd.R_ne HO244.out BK223.out (by decide))); have n2_ := Aside0.mk (hb); have n3_ := Aside0.mk (ho); clear HO_10; clear BK223; clear HB; clear HO244; have HO_10 := n0_; have BK223 := n1_; have HB := n2_; have HO247 := n3_; clear n0_ n1_ n2_ n3_; clear ho hb hg hat))
                      go_loopg [13, 14] k2 (fun kq v13 v14 w' => ∃ (x13_3 : List Int) (x14_3 : Int), v14 = .int .i64 x14_3 ∧ Aside0 (clepsydralaw15_RouteSettles.l2 kq l2 (l1.length : Int) x10_2 x13_3 x14_3 a0_0 a0_1 a0_2 a0_3 a0_4 a0_5 a0_6 a0_7 a0_8 a0_9 a0_10 a0_11 = some r) ∧ Aside0 (kq ≤ k2) ∧ Aside0 (Kd.S (Kd.slice 4 Kd.bool) 45 w' w.heap.size (fun _ => True) (.slice Ao27 x10_2.length co27) x10_2) ∧ Aside0 (Kd.R (Kd.int .i64) 3 w' w.heap.size (fun _ => True) v13 x13_3) ∧ Aside0 (w'.heap[gb223]? = some (.cells #[.int .i64 a0_0, .int .i64 a0_1, .int .i64 a0_2, .int .i64 a0_3, .int .i64 a0_4, .int .i64 a0_5, .int .i64 a0_6, .int .i64 a0_7, .int .i64 a0_8, .int .i64 a0_9, .int .i64 a0_10, .int .i64 a0_11] 23 (0, 0))) ∧ Aside0 (Below w.heap.size w w'))
                      case atStart => exact ⟨(y245), (0), (by first | rfl | (simp; done) | (simp [*]; done)), H', ⟨Nat.le_refl _⟩, ⟨by (try simp only [hl10_2]); (with_reducible repeat (first | apply Kd.S_alloc | apply Kd.S_drewN | apply Kd.S_drew)); exact HO_10.out⟩, ⟨by (try simp only [hl10_2]); (with_reducible repeat (first | apply Kd.R_alloc | apply Kd.R_drewN | apply Kd.R_drew)); exact HO247.out⟩, ⟨by (try simp only [hl10_2]); (with_reducible repeat (first | refine blk_drewN ?_ _ | refine blk_drew ?_ | refine blk_alloc ?_ _)); exact BK223.out⟩, ⟨by repeat (first | (with_reducible first | exact HB.out | apply below_alloc | apply pw_below_drewN | apply below_drew1 | refine below_set ?_ GE223.out) | exact HB.out)⟩⟩
                      case round =>
                        clear H'
                        (try clear c2); (try clear p2); (try clear q2); (try clear hx2); (try clear c3); (try clear p3); (try clear q3); (try clear hx3); (try clear c4); (try clear p4); (try clear q4); (try clear hx4); (try clear hf4); (try clear c5); (try clear p5); (try clear q5); (try clear hx5); (try clear hf5); (try clear p6); (try clear c23); (try clear p23); (try clear q23); (try clear hx23); (try clear c28); (try clear c28b0); (try clear c29); (try clear c30); (try clear c31); (try clear c32); (try clear p33); (try clear q33); (try clear hx33); (try clear hx36); (try clear c38); (try clear c38b0); (try clear c39); (try clear c39b0); (try clear c40); (try clear c40b0); (try clear c41); (try clear c41b0); (try clear c41b1); (try clear c42); (try clear c42b0); (try clear c43); (try clear c43b0); (try clear p44); (try clear q44); (try clear hx44); (try clear hf44); (try clear c46); (try clear q46); (try clear c48); (try clear c48b0); (try clear c50); (try clear c50b0); (try clear c50b1); (try clear c52); (try clear c52b0); (try clear c53); (try clear c53b0); (try clear p54); (try clear q54); (try clear hx54); (try clear hf54); (try clear c56); (try clear q56); (try clear c58); (try clear hfz18_2); (try clear hfz18_3); (try clear hfz18_4); (try clear hfz18_5); (try clear hfz18_6); (try clear hfz18_7); (try clear hfz18_8); (try clear hfz18_9); (try clear hfz20_0); (try clear hfz20_1); (try clear hfz20_10); (try clear hfz20_11); (try clear hfz20_2); (try clear hfz20_3); (try clear hfz20_4); (try clear hfz20_5); (try clear hfz20_6); (try clear hfz20_7); (try clear hfz20_8); (try clear hfz20_9); (try clear hx233_0); (try clear hx234_0); (try clear hx238_0); (try clear hx33_0); (try clear hx36_0); (try clear hx44_0); (try clear hx54_0); (try clear p2); (try clear p233); (try clear p234); (try clear p238); (try clear p33); (try clear p44); (try clear p54); (try clear q233); (try clear q234); (try clear q238); (try clear q33); (try clear q44); (try clear q54)
                        obtain ⟨x13_3, x14_3, rfl, HA, HK3, HO_10, HO_13, BK223, HB⟩ := hrel
                        cases gk with
                        | zero => exact absurd HA.out (by simp [clepsydralaw15_RouteSettles.l2])
                        | succ k3 =>
                          have H := HA.out
                          clear HA
                          simp only [clepsydralaw15_RouteSettles.l2] at H
                          by_cases c62 : x14_3 < (wrap64 (a0_2 + 1))
                          · rw [if_pos c62] at H
                            have c62b0 : decide (x14_3 < (wrap64 (a0_2 + 1))) = true := decide_eq_true c62
                            clear c62
                            by_cases c63 : 0 ≤ (l1.length : Int)
                            · rw [if_pos c63] at H
                              have c63b0 := eq_true c63
                              have c63b1 : decide (0 ≤ (l1.length : Int)) = true := decide_eq_true c63
                              clear c63
                              by_cases c64 : ((l1.length : Int) : Int).toNat ≤ 35184372088832
                              · rw [if_pos c64] at H
                                have c64b0 := eq_true c64
                                have c64b1 : decide (((l1.length : Int) : Int).toNat ≤ 35184372088832) = true := decide_eq_true c64
                                clear c64
                                obtain ⟨y248, hy248⟩ : ∃ y_ : List Int, y_ = (List.replicate ((l1.length : Int) : Int).toNat 0) := ⟨_, rfl⟩
                                replace H : (clepsydralaw15_RouteSettles.l3 k3 l2 (l1.length : Int) x10_2 x13_3 x14_3 y248 (y248.length : Int) 0 a0_0 a0_1 a0_2 a0_3 a0_4 a0_5 a0_6 a0_7 a0_8 a0_9 a0_10 a0_11) = some r := by first | (rw [hy248]; with_reducible exact H) | (have H2_ := (Option.bind_some _ _).symm.trans H; rw [hy248]; with_reducible exact H2_) | (have H2_ := (Option.bind_some _ _).symm.trans H; with_reducible exact H2_) | with_reducible exact H | (rw [hy248]; exact H) | exact H
                                have Ny248 := Aside0.mk hy248
                                clear hy248
                                have H' := Aside0.mk H
                                clear H
                                have hcz65_0 : wr.cell? ⟨gb223, 0, none⟩ = some (.int .i64 a0_0) := (blk_cell BK223.out 0).trans rfl
                                have hcz65_1 : wr.cell? ⟨gb223, 1, none⟩ = some (.int .i64 a0_1) := (blk_cell BK223.out 1).trans rfl
                                have hcz65_2 : wr.cell? ⟨gb223, 2, none⟩ = some (.int .i64 a0_2) := (blk_cell BK223.out 2).trans rfl
                                have hcz65_3 : wr.cell? ⟨gb223, 3, none⟩ = some (.int .i64 a0_3) := (blk_cell BK223.out 3).trans rfl
                                have hcz65_4 : wr.cell? ⟨gb223, 4, none⟩ = some (.int .i64 a0_4) := (blk_cell BK223.out 4).trans rfl
                                have hcz65_5 : wr.cell? ⟨gb223, 5, none⟩ = some (.int .i64 a0_5) := (blk_cell BK223.out 5).trans rfl
                                have hcz65_6 : wr.cell? ⟨gb223, 6, none⟩ = some (.int .i64 a0_6) := (blk_cell BK223.out 6).trans rfl
                                have hcz65_7 : wr.cell? ⟨gb223, 7, none⟩ = some (.int .i64 a0_7) := (blk_cell BK223.out 7).trans rfl
                                have hcz65_8 : wr.cell? ⟨gb223, 8, none⟩ = some (.int .i64 a0_8) := (blk_cell BK223.out 8).trans rfl
                                have hcz65_9 : wr.cell? ⟨gb223, 9, none⟩ = some (.int .i64 a0_9) := (blk_cell BK223.out 9).trans rfl
                                have hcz65_10 : wr.cell? ⟨gb223, 10, none⟩ = some (.int .i64 a0_10) := (blk_cell BK223.out 10).trans rfl
                                have hcz65_11 : wr.cell? ⟨gb223, 11, none⟩ = some (.int .i64 a0_11) := (blk_cell BK223.out 11).trans rfl
                                have hfz65_0 := blk_frozen BK223.out 0
                                have hfz65_1 := blk_frozen BK223.out 1
                                have hfz65_2 := blk_frozen BK223.out 2
                                have hfz65_3 := blk_frozen BK223.out 3
                                have hfz65_4 := blk_frozen BK223.out 4
                                have hfz65_5 := blk_frozen BK223.out 5
                                have hfz65_6 := blk_frozen BK223.out 6
                                have hfz65_7 := blk_frozen BK223.out 7
                                have hfz65_8 := blk_frozen BK223.out 8
                                have hfz65_9 := blk_frozen BK223.out 9
                                have hfz65_10 := blk_frozen BK223.out 10
                                have hfz65_11 := blk_frozen BK223.out 11
                                go_wp2_with (first | ((with_reducible refine gate_dst (N := 96) rfl ?_); (try (refine gate_guard (by rfl) ?_; dsimp only)); refine Kd.R_make (Kd.int .i64) _ 3 rfl (N := 96) rfl 24 _ _ rfl (l1.length : Int) rfl rfl Try.underlying24 (.int .i64 0) 8 info3 rfl (by decide) (by omega) 0 (ok := fun _ => True) (okp := fun _ => True) rfl (fun _ hk => hk) trivial (of_decide_eq_true (by first | (with_reducible assumption) | assumption)) (Nat.le_trans (Nat.mul_le_mul_right _ (of_decide_eq_true (by first | (with_reducible assumption) | assumption) : (l1.length : Int).toNat ≤ 35184372088832)) (by omega)) (Below.refl _ _) (Nat.le_refl _) ?_; intro v249 w66 ho67 hb hg_ hnew_; clear hg_ hnew_; (first | rw [← Ny248.out] at ho67 | (simp only [Int.reduceToNat] at ho67; rw [← Ny248.out] at ho67)); have n0_ := Aside0.mk (Kd.S_below (by (with_reducible repeat (first | apply Kd.S_alloc | apply Kd.S_drewN | apply Kd.S_drew)); exact HO_10.out) hb); have n1_ := Aside0.mk (Kd.R_elder' (by (with_reducible repeat (first | apply Kd.R_alloc | apply Kd.R_drewN | apply Kd.R_drew)); exact HO_13.out) (Kd.R_base ho67) hb); have n2_ := Aside0.mk (Kd.R_lower (Kd.R_new' ho67 (Kd.R_lt (by (with_reducible repeat (first | apply Kd.R_alloc | apply Kd.R_drewN | apply Kd.R_drew)); exact HO_13.out))) (below_size (by repeat (first | (with_reducible first | exact HB.out | apply below_alloc | apply pw_below_drewN | apply below_drew1 | refine below_set ?_ GE223.out) | exact HB.out)))); have n3_ := Aside0.mk (blk_below (g := gb223) (o := .cells #[.int .i64 a0_0, .int .i64 a0_1, .int .i64 a0_2, .int .i64 a0_3, .int .i64 a0_4, .int .i64 a0_5, .int .i64 a0_6, .int .i64 a0_7, .int .i64 a0_8, .int .i64 a0_9, .int .i64 a0_10, .int .i64 a0_11] 23 (0, 0)) (by (with_reducible repeat (first | refine blk_drewN ?_ _ | refine blk_drew ?_ | refine blk_alloc ?_ _)); exact BK223.out) hb); have n4_ := Aside0.mk (below_step (by repeat (first | (with_reducible first | exact HB.out | apply below_alloc | apply pw_below_drewN | apply below_drew1 | refine below_set ?_ GE223.out) | exact HB.out)) hb); clear HO_10; clear HO_13; clear BK223; clear HB; have HO_10 := n0_; have HO_13 := n1_; have HO250 := n2_; have BK223 := n3_; have HB := n4_; clear n0_ n1_ n2_ n3_ n4_; clear hb ho67; obtain ⟨Ao68, co68, eo68⟩ := Kd.R_slice HO250.out; subst eo68))
                                go_loopg [99] k3 (fun kq v99 w' => ∃ (x15_4 : List Int) (x99_4 : Int), v99 = .int .i64 x99_4 ∧ Aside0 (clepsydralaw15_RouteSettles.l3 kq l2 (l1.length : Int) x10_2 x13_3 x14_3 x15_4 (y248.length : Int) x99_4 a0_0 a0_1 a0_2 a0_3 a0_4 a0_5 a0_6 a0_7 a0_8 a0_9 a0_10 a0_11 = some r) ∧ Aside0 (kq ≤ k3) ∧ Aside0 (Kd.S (Kd.slice 4 Kd.bool) 45 w' w.heap.size (fun _ => True) (.slice Ao27 x10_2.length co27) x10_2) ∧ Aside0 (Kd.R (Kd.int .i64) 3 w' w.heap.size (fun k_ => some k_ ≠ ((.slice Ao68 y248.length co68) : Value).ownBlock) u13 x13_3) ∧ Aside0 (Kd.R (Kd.int .i64) 3 w' w.heap.size (fun k_ => some k_ ≠ (u13 : Value).ownBlock) (.slice Ao68 y248.length co68) x15_4) ∧ Aside0 (w'.heap[gb223]? = some (.cells #[.int .i64 a0_0, .int .i64 a0_1, .int .i64 a0_2, .int .i64 a0_3, .int .i64 a0_4, .int .i64 a0_5, .int .i64 a0_6, .int .i64 a0_7, .int .i64 a0_8, .int .i64 a0_9, .int .i64 a0_10, .int .i64 a0_11] 23 (0, 0))) ∧ Aside0 (Below w.heap.size w w'))
                                case atStart => exact ⟨(y248), (0), (by first | rfl | (simp; done) | (simp [*]; done)), H', ⟨Nat.le_refl _⟩, ⟨by (try simp only [hl10_2]); (with_reducible repeat (first | apply Kd.S_alloc | apply Kd.S_drewN | apply Kd.S_drew)); exact HO_10.out⟩, ⟨by (try simp only [hl10_2]); (with_reducible repeat (first | apply Kd.R_alloc | apply Kd.R_drewN | apply Kd.R_drew)); exact Kd.R_mono HO_13.out (fun _ hk => hk.2)⟩, ⟨by (try simp only [hl10_2]); (with_reducible repeat (first | apply Kd.R_alloc | apply Kd.R_drewN | apply Kd.R_drew)); exact Kd.R_mono HO250.out (fun _ hk => hk.2)⟩, ⟨by (try simp only [hl10_2]); (with_reducible repeat (first | refine blk_drewN ?_ _ | refine blk_drew ?_ | refine blk_alloc ?_ _)); exact BK223.out⟩, ⟨by repeat (first | (with_reducible first | exact HB.out | apply below_alloc | apply pw_below_drewN | apply below_drew1 | refine below_set ?_ GE223.out) | exact HB.out)⟩⟩
                                case round =>
                                  clear H'
                                  (try clear c2); (try clear p2); (try clear q2); (try clear hx2); (try clear c3); (try clear p3); (try clear q3); (try clear hx3); (try clear c4); (try clear p4); (try clear q4); (try clear hx4); (try clear hf4); (try clear c5); (try clear p5); (try clear q5); (try clear hx5); (try clear hf5); (try clear c6); (try clear p6); (try clear c23); (try clear p23); (try clear q23); (try clear hx23); (try clear c28); (try clear c28b0); (try clear c29); (try clear c30); (try clear c31); (try clear c32); (try clear p33); (try clear q33); (try clear hx33); (try clear hx36); (try clear c38); (try clear c38b0); (try clear c39); (try clear c39b0); (try clear c40); (try clear c40b0); (try clear c41); (try clear c41b0); (try clear c41b1); (try clear c42); (try clear c42b0); (try clear c43); (try clear c43b0); (try clear p44); (try clear q44); (try clear hx44); (try clear hf44); (try clear c46); (try clear q46); (try clear c48); (try clear c48b0); (try clear c50); (try clear c50b0); (try clear c50b1); (try clear c52); (try clear c52b0); (try clear c53); (try clear c53b0); (try clear p54); (try clear q54); (try clear hx54); (try clear hf54); (try clear c56); (try clear q56); (try clear c58); (try clear c62); (try clear c62b0); (try clear c63); (try clear c63b0); (try clear c63b1); (try clear c64); (try clear c64b0); (try clear c64b1); (try clear p64); (try clear hcz65_0); (try clear hcz65_1); (try clear hcz65_10); (try clear hcz65_11); (try clear hcz65_2); (try clear hcz65_3); (try clear hcz65_4); (try clear hcz65_5); (try clear hcz65_6); (try clear hcz65_7); (try clear hcz65_8); (try clear hcz65_9); (try clear hfz18_2); (try clear hfz18_3); (try clear hfz18_4); (try clear hfz18_5); (try clear hfz18_6); (try clear hfz18_7); (try clear hfz18_8); (try clear hfz18_9); (try clear hfz20_0); (try clear hfz20_1); (try clear hfz20_10); (try clear hfz20_11); (try clear hfz20_2); (try clear hfz20_3); (try clear hfz20_4); (try clear hfz20_5); (try clear hfz20_6); (try clear hfz20_7); (try clear hfz20_8); (try clear hfz20_9); (try clear hfz65_0); (try clear hfz65_1); (try clear hfz65_10); (try clear hfz65_11); (try clear hfz65_2); (try clear hfz65_3); (try clear hfz65_4); (try clear hfz65_5); (try clear hfz65_6); (try clear hfz65_7); (try clear hfz65_8); (try clear hfz65_9); (try clear hx233_0); (try clear hx234_0); (try clear hx238_0); (try clear hx33_0); (try clear hx36_0); (try clear hx44_0); (try clear hx54_0); (try clear p2); (try clear p23); (try clear p233); (try clear p234); (try clear p238); (try clear p3); (try clear p33); (try clear p4); (try clear p44); (try clear p5); (try clear p54); (try clear p6); (try clear q2); (try clear q23); (try clear q233); (try clear q234); (try clear q238); (try clear q3); (try clear q33); (try clear q4); (try clear q44); (try clear q46); (try clear q5); (try clear q54); (try clear q56)
                                  obtain ⟨x15_4, x99_4, rfl, HA, HK4, HO_10, HO_13, HO_15, BK223, HB⟩ := hrel
                                  have hl15_4 := (Kd.R_reads' HO_15.out).1
                                  rw [hl15_4] at HO_15
                                  (try simp only [hl15_4])
                                  (try simp only [hl15_4] at BK223)
                                  (try simp only [hl15_4] at HO_10)
                                  (try simp only [hl15_4] at HO_13)
                                  cases gk with
                                  | zero => exact absurd HA.out (by simp [clepsydralaw15_RouteSettles.l3])
                                  | succ k4 =>
                                    have H := HA.out
                                    clear HA
                                    simp only [clepsydralaw15_RouteSettles.l3] at H
                                    by_cases c69 : x99_4 < (y248.length : Int)
                                    · rw [if_pos c69] at H
                                      have c69b0 : decide (x99_4 < (y248.length : Int)) = true := decide_eq_true c69
                                      (try have c69b9 : decide (x99_4 < (x15_4.length : Int)) = true := by rw [← hl15_4]; exact c69b0)
                                      clear c69
                                      have H' := Aside0.mk H
                                      clear H
                                      go_wp2
                                      go_loopg [17, 104] k4 (fun kq v17 v104 w' => ∃ (x17_5 : List Int) (x104_5 : Int), v104 = .int .i64 x104_5 ∧ Aside0 (clepsydralaw15_RouteSettles.l4 kq l2 (l1.length : Int) x10_2 x13_3 x14_3 x15_4 x99_4 x17_5 (y248.length : Int) x99_4 (x15_4.length : Int) x104_5 a0_0 a0_1 a0_2 a0_3 a0_4 a0_5 a0_6 a0_7 a0_8 a0_9 a0_10 a0_11 = some r) ∧ Aside0 (kq ≤ k4) ∧ Aside0 (Kd.S (Kd.slice 4 Kd.bool) 45 w' w.heap.size (fun _ => True) (.slice Ao27 x10_2.length co27) x10_2) ∧ Aside0 (Kd.R (Kd.int .i64) 3 w' w.heap.size (fun k_ => some k_ ≠ ((.slice Ao68 x15_4.length co68) : Value).ownBlock ∧ some k_ ≠ (v17 : Value).ownBlock) u13 x13_3) ∧ Aside0 (Kd.R (Kd.int .i64) 3 w' w.heap.size (fun k_ => some k_ ≠ (u13 : Value).ownBlock ∧ some k_ ≠ (v17 : Value).ownBlock) (.slice Ao68 x15_4.length co68) x15_4) ∧ Aside0 (Kd.R (Kd.int .i64) 3 w' w.heap.size (fun k_ => some k_ ≠ (u13 : Value).ownBlock ∧ some k_ ≠ ((.slice Ao68 x15_4.length co68) : Value).ownBlock) v17 x17_5) ∧ Aside0 (w'.heap[gb223]? = some (.cells #[.int .i64 a0_0, .int .i64 a0_1, .int .i64 a0_2, .int .i64 a0_3, .int .i64 a0_4, .int .i64 a0_5, .int .i64 a0_6, .int .i64 a0_7, .int .i64 a0_8, .int .i64 a0_9, .int .i64 a0_10, .int .i64 a0_11] 23 (0, 0))) ∧ Aside0 (Below w.heap.size w w'))
                                      case atStart => exact ⟨(([] : List Int)), (0), (by first | rfl | (simp; done) | (simp [*]; done)), H', ⟨Nat.le_refl _⟩, ⟨by (try simp only [hl10_2]); (try simp only [hl15_4]); (with_reducible repeat (first | apply Kd.S_alloc | apply Kd.S_drewN | apply Kd.S_drew)); exact HO_10.out⟩, ⟨by (try simp only [hl10_2]); (try simp only [hl15_4]); (with_reducible repeat (first | apply Kd.R_alloc | apply Kd.R_drewN | apply Kd.R_drew)); exact Kd.R_mono HO_13.out (fun _ hk => ⟨hk, (by simp [Value.ownBlock])⟩)⟩, ⟨by (try simp only [hl10_2]); (try simp only [hl15_4]); (with_reducible repeat (first | apply Kd.R_alloc | apply Kd.R_drewN | apply Kd.R_drew)); exact Kd.R_mono HO_15.out (fun _ hk => ⟨hk, (by simp [Value.ownBlock])⟩)⟩, ⟨by (try simp only [hl10_2]); (try simp only [hl15_4]); first | exact Kd.R_nil _ _ _ _ _ | exact Kd.N_nil _ _ _ _ _ | exact Kd.V_nil _ _ _ _ _ | exact Kd.Q_nil _ _ _ _ _ | exact Kd.S_nil _ _ _ _ _⟩, ⟨by (try simp only [hl10_2]); (try simp only [hl15_4]); (with_reducible repeat (first | refine blk_drewN ?_ _ | refine blk_drew ?_ | refine blk_alloc ?_ _)); exact BK223.out⟩, ⟨by repeat (first | (with_reducible first | exact HB.out | apply below_alloc | apply pw_below_drewN | apply below_drew1 | refine below_set ?_ GE223.out) | exact HB.out)⟩⟩
                                      case round =>
                                        clear H'
                                        (try clear c2); (try clear p2); (try clear q2); (try clear hx2); (try clear c3); (try clear p3); (try clear q3); (try clear hx3); (try clear c4); (try clear p4); (try clear q4); (try clear hx4); (try clear hf4); (try clear c5); (try clear p5); (try clear q5); (try clear hx5); (try clear hf5); (try clear c6); (try clear p6); (try clear c23); (try clear p23); (try clear q23); (try clear hx23); (try clear c28); (try clear c28b0); (try clear c29); (try clear c30); (try clear c31); (try clear c32); (try clear p33); (try clear q33); (try clear hx33); (try clear hx36); (try clear c38); (try clear c38b0); (try clear c39); (try clear c39b0); (try clear c40); (try clear c40b0); (try clear c41); (try clear c41b0); (try clear c41b1); (try clear c42); (try clear c42b0); (try clear c43); (try clear c43b0); (try clear p44); (try clear q44); (try clear hx44); (try clear hf44); (try clear c46); (try clear q46); (try clear c48); (try clear c48b0); (try clear c50); (try clear c50b0); (try clear c50b1); (try clear c52); (try clear c52b0); (try clear c53); (try clear c53b0); (try clear p54); (try clear q54); (try clear hx54); (try clear hf54); (try clear c56); (try clear q56); (try clear c58); (try clear c62); (try clear c62b0); (try clear c63); (try clear c63b0); (try clear c63b1); (try clear c64); (try clear c64b0); (try clear c64b1); (try clear p64); (try clear c69); (try clear c69b0); (try clear hcz65_0); (try clear hcz65_1); (try clear hcz65_10); (try clear hcz65_11); (try clear hcz65_2); (try clear hcz65_3); (try clear hcz65_4); (try clear hcz65_5); (try clear hcz65_6); (try clear hcz65_7); (try clear hcz65_8); (try clear hcz65_9); (try clear hfz18_2); (try clear hfz18_3); (try clear hfz18_4); (try clear hfz18_5); (try clear hfz18_6); (try clear hfz18_7); (try clear hfz18_8); (try clear hfz18_9); (try clear hfz20_0); (try clear hfz20_1); (try clear hfz20_10); (try clear hfz20_11); (try clear hfz20_2); (try clear hfz20_3); (try clear hfz20_4); (try clear hfz20_5); (try clear hfz20_6); (try clear hfz20_7); (try clear hfz20_8); (try clear hfz20_9); (try clear hfz65_0); (try clear hfz65_1); (try clear hfz65_10); (try clear hfz65_11); (try clear hfz65_2); (try clear hfz65_3); (try clear hfz65_4); (try clear hfz65_5); (try clear hfz65_6); (try clear hfz65_7); (try clear hfz65_8); (try clear hfz65_9); (try clear hx233_0); (try clear hx234_0); (try clear hx238_0); (try clear hx33_0); (try clear hx36_0); (try clear hx44_0); (try clear hx54_0); (try clear p2); (try clear p23); (try clear p233); (try clear p234); (try clear p238); (try clear p3); (try clear p33); (try clear p4); (try clear p44); (try clear p5); (try clear p54); (try clear p6); (try clear p64); (try clear q2); (try clear q23); (try clear q233); (try clear q234); (try clear q238); (try clear q3); (try clear q33); (try clear q4); (try clear q44); (try clear q46); (try clear q5); (try clear q54); (try clear q56)
                                        obtain ⟨x17_5, x104_5, rfl, HA, HK5, HO_10, HO_13, HO_15, HO_17, BK223, HB⟩ := hrel
                                        cases gk with
                                        | zero => exact absurd HA.out (by simp [clepsydralaw15_RouteSettles.l4])
                                        | succ k5 =>
                                          have H := HA.out
                                          clear HA
                                          simp only [clepsydralaw15_RouteSettles.l4] at H
                                          by_cases c70 : x104_5 < (x15_4.length : Int)
                                          · rw [if_pos c70] at H
                                            have c70b0 : decide (x104_5 < (x15_4.length : Int)) = true := decide_eq_true c70
                                            clear c70
                                            have HC71 := Aside0.mk H
                                            clear H
                                            go_upto_region 29 with (fail)
                                            go_cut [123] (fun v123 wc => ∃ (kq : Nat) (x123_70 : Bool), v123 = .bool x123_70 ∧ Aside0 (clepsydralaw15_RouteSettles.j6 kq l2 (l1.length : Int) x10_2 x13_3 x14_3 x15_4 x99_4 x17_5 x104_5 (y248.length : Int) x99_4 (x15_4.length : Int) x104_5 x123_70 a0_0 a0_1 a0_2 a0_3 a0_4 a0_5 a0_6 a0_7 a0_8 a0_9 a0_10 a0_11 = some r) ∧ Aside0 (kq ≤ k5) ∧ Aside0 (Kd.S (Kd.slice 4 Kd.bool) 45 wc w.heap.size (fun _ => True) (.slice Ao27 x10_2.length co27) x10_2) ∧ Aside0 (Kd.R (Kd.int .i64) 3 wc w.heap.size (fun k_ => some k_ ≠ ((.slice Ao68 x15_4.length co68) : Value).ownBlock ∧ some k_ ≠ (u17 : Value).ownBlock) u13 x13_3) ∧ Aside0 (Kd.R (Kd.int .i64) 3 wc w.heap.size (fun k_ => some k_ ≠ (u13 : Value).ownBlock ∧ some k_ ≠ (u17 : Value).ownBlock) (.slice Ao68 x15_4.length co68) x15_4) ∧ Aside0 (Kd.R (Kd.int .i64) 3 wc w.heap.size (fun k_ => some k_ ≠ (u13 : Value).ownBlock ∧ some k_ ≠ ((.slice Ao68 x15_4.length co68) : Value).ownBlock) u17 x17_5) ∧ Aside0 (wc.heap[gb223]? = some (.cells #[.int .i64 a0_0, .int .i64 a0_1, .int .i64 a0_2, .int .i64 a0_3, .int .i64 a0_4, .int .i64 a0_5, .int .i64 a0_6, .int .i64 a0_7, .int .i64 a0_8, .int .i64 a0_9, .int .i64 a0_10, .int .i64 a0_11] 23 (0, 0))) ∧ Aside0 (Below w.heap.size w wc))
                                            case first =>
                                              have H := HC71.out
                                              clear HC71
                                              by_cases c72 : 0 ≤ x99_4
                                              · rw [if_pos c72] at H
                                                have c72b0 : decide (0 ≤ x99_4) = true := decide_eq_true c72
                                                clear c72
                                                (first | rw [c72b0] | (simp only [i64_w, i32_w]; rw [c72b0]) | skip)
                                                by_cases c73 : x99_4 < (x10_2.length : Int)
                                                · rw [if_pos c73] at H
                                                  have c73b0 : decide (x99_4 < (x10_2.length : Int)) = true := decide_eq_true c73
                                                  clear c73
                                                  by_cases c74 : 0 ≤ x104_5
                                                  · rw [if_pos c74] at H
                                                    have c74b0 : decide (0 ≤ x104_5) = true := decide_eq_true c74
                                                    clear c74
                                                    by_cases c75 : x104_5 < ((rd_L7 x10_2 x99_4).length : Int)
                                                    · rw [if_pos c75] at H
                                                      have c75b0 : decide (x104_5 < ((rd_L7 x10_2 x99_4).length : Int)) = true := decide_eq_true c75
                                                      clear c75
                                                      obtain ⟨bq76, hbq76⟩ : ∃ b_ : Bool, b_ = (rdOf false (rd_L7 x10_2 x99_4) x104_5) := ⟨_, rfl⟩
                                                      replace H : (if bq76 = true then (if x14_3 > 0 then (if x104_5 < (l2.length : Int) then (clepsydralaw15_RouteSettles.j6 k5 l2 (l1.length : Int) x10_2 x13_3 x14_3 x15_4 x99_4 x17_5 x104_5 (y248.length : Int) x99_4 (x15_4.length : Int) x104_5 (rdOf false l2 x104_5) a0_0 a0_1 a0_2 a0_3 a0_4 a0_5 a0_6 a0_7 a0_8 a0_9 a0_10 a0_11) else (none)) else (clepsydralaw15_RouteSettles.j6 k5 l2 (l1.length : Int) x10_2 x13_3 x14_3 x15_4 x99_4 x17_5 x104_5 (y248.length : Int) x99_4 (x15_4.length : Int) x104_5 false a0_0 a0_1 a0_2 a0_3 a0_4 a0_5 a0_6 a0_7 a0_8 a0_9 a0_10 a0_11)) else (clepsydralaw15_RouteSettles.j6 k5 l2 (l1.length : Int) x10_2 x13_3 x14_3 x15_4 x99_4 x17_5 x104_5 (y248.length : Int) x99_4 (x15_4.length : Int) x104_5 false a0_0 a0_1 a0_2 a0_3 a0_4 a0_5 a0_6 a0_7 a0_8 a0_9 a0_10 a0_11)) = some r := by rw [← hbq76] at H; exact H
                                                      have Nbq76 := Aside0.mk hbq76
                                                      clear hbq76
                                                      by_cases c77 : bq76 = true
                                                      · subst c77
                                                        have H1 : (if x14_3 > 0 then (if x104_5 < (l2.length : Int) then (clepsydralaw15_RouteSettles.j6 k5 l2 (l1.length : Int) x10_2 x13_3 x14_3 x15_4 x99_4 x17_5 x104_5 (y248.length : Int) x99_4 (x15_4.length : Int) x104_5 (rdOf false l2 x104_5) a0_0 a0_1 a0_2 a0_3 a0_4 a0_5 a0_6 a0_7 a0_8 a0_9 a0_10 a0_11) else (none)) else (clepsydralaw15_RouteSettles.j6 k5 l2 (l1.length : Int) x10_2 x13_3 x14_3 x15_4 x99_4 x17_5 x104_5 (y248.length : Int) x99_4 (x15_4.length : Int) x104_5 false a0_0 a0_1 a0_2 a0_3 a0_4 a0_5 a0_6 a0_7 a0_8 a0_9 a0_10 a0_11)) = some r := by rw [if_pos rfl] at H; exact H
                                                        clear H
                                                        have H := H1
                                                        clear H1
                                                        by_cases c78 : x14_3 > 0
                                                        · rw [if_pos c78] at H
                                                          have c78b0 : decide (0 < x14_3) = true := decide_eq_true c78
                                                          clear c78
                                                          by_cases c79 : x104_5 < (l2.length : Int)
                                                          · rw [if_pos c79] at H
                                                            have c79b0 : decide (x104_5 < (l2.length : Int)) = true := decide_eq_true c79
                                                            clear c79
                                                            have H' := Aside0.mk H
                                                            clear H
                                                            have p255 : 0 ≤ (x99_4 : Int) := of_decide_eq_true (by first | (with_reducible assumption) | assumption)
                                                            have q255 : x99_4 < (x10_2.length : Int) := of_decide_eq_true (by first | (with_reducible assumption) | assumption)
                                                            obtain ⟨ad255, A255_0, c255_0, e255, hx255_0, hl255_0, hi255_0⟩ := at_L7 (Kd.S_reads' HO_10.out).2.2 x99_4 p255 q255
                                                            cases e255
                                                            obtain ⟨ce255, hce255, hMe255, hcc255⟩ := Kd.S_get HO_10.out [] x99_4 p255 (by first | exact q255 | exact of_decide_eq_true (by first | (with_reducible assumption) | assumption) | (have e_ := (Kd.S_reads' HO_10.out).1; omega))
                                                            obtain ⟨ve255_0, rfl, ge255_0⟩ := hMe255
                                                            have hv255_0 := hcc255 0 _ rfl
                                                            rw [Nat.add_zero, show ((Kd.slice 4 Kd.bool)).sz = 1 from rfl, Nat.mul_one] at hv255_0
                                                            replace hv255_0 := Option.some.inj (hv255_0.symm.trans hx255_0)
                                                            rw [hv255_0] at ge255_0
                                                            have HL255_0 := Aside0.mk (show Kd.R Kd.bool 4 _ _ _ _ (rd_L7 x10_2 x99_4) from ge255_0)
                                                            clear hv255_0 ge255_0
                                                            have HX255_0 := Aside0.mk hx255_0
                                                            clear hcc255 hce255
                                                            have HR255_0 := Aside0.mk hi255_0
                                                            have HC255_0 := Aside0.mk hl255_0
                                                            clear hi255_0 hl255_0
                                                            replace p255 := eq_true p255
                                                            replace q255 := eq_true q255
                                                            have p256 : 0 ≤ (x104_5 : Int) := of_decide_eq_true (by first | (with_reducible assumption) | assumption)
                                                            have q256 : x104_5 < ((rd_L7 x10_2 x99_4).length : Int) := of_decide_eq_true (by first | (with_reducible assumption) | assumption)
                                                            obtain ⟨ad256, e256, hx256_0⟩ := Kd.at_bool (by repeat (first | (with_reducible exact HR255_0.out) | (with_reducible refine Kd.C_alloc ?_ _) | (with_reducible refine Kd.C_drewN ?_ _) | (with_reducible refine Kd.C_drew ?_) | exact HR255_0.out)) x104_5 p256 q256
                                                            (try rw [← Nbq76.out] at hx256_0)
                                                            cases e256
                                                            replace p256 := eq_true p256
                                                            replace q256 := eq_true q256
                                                            have p257 : 0 ≤ (x104_5 : Int) := of_decide_eq_true (by first | (with_reducible assumption) | assumption)
                                                            have q257 : x104_5 < (l2.length : Int) := of_decide_eq_true (by first | (with_reducible assumption) | assumption)
                                                            obtain ⟨ad257, e257, hx257_0⟩ := Kd.at_bool HR2.out x104_5 p257 q257
                                                            (try rw [← Nbq76.out] at hx257_0)
                                                            cases e257
                                                            replace hx257_0 := (HB.out.cell (World.block_lt_of_cell? w _ hx257_0)).trans hx257_0
                                                            replace p257 := eq_true p257
                                                            replace q257 := eq_true q257
                                                            go_wp2
                                                            go_meet
                                                            case rel => exact ⟨_, (rdOf false l2 x104_5), (by first | rfl | (simp; done) | (simp [*]; done)), H', ⟨by have := HJ6.out; have := HK2.out; have := HK3.out; have := HK4.out; have := HK5.out; first | omega | exact Nat.le_refl _⟩, ⟨by (try simp only [hl10_2]); (try simp only [hl15_4]); (with_reducible repeat (first | apply Kd.S_alloc | apply Kd.S_drewN | apply Kd.S_drew)); exact HO_10.out⟩, ⟨by (try simp only [hl10_2]); (try simp only [hl15_4]); (with_reducible repeat (first | apply Kd.R_alloc | apply Kd.R_drewN | apply Kd.R_drew)); exact HO_13.out⟩, ⟨by (try simp only [hl10_2]); (try simp only [hl15_4]); (with_reducible repeat (first | apply Kd.R_alloc | apply Kd.R_drewN | apply Kd.R_drew)); exact HO_15.out⟩, ⟨by (try simp only [hl10_2]); (try simp only [hl15_4]); (with_reducible repeat (first | apply Kd.R_alloc | apply Kd.R_drewN | apply Kd.R_drew)); exact HO_17.out⟩, ⟨by (try simp only [hl10_2]); (try simp only [hl15_4]); (with_reducible repeat (first | refine blk_drewN ?_ _ | refine blk_drew ?_ | refine blk_alloc ?_ _)); exact BK223.out⟩, ⟨by repeat (first | (with_reducible first | exact HB.out | apply below_alloc | apply pw_below_drewN | apply below_drew1 | refine below_set ?_ GE223.out) | exact HB.out)⟩⟩
                                                          · rw [if_neg c79] at H
                                                            exact absurd H (by simp)
                                                        · rw [if_neg c78] at H
                                                          have c78b0 : decide (0 < x14_3) = false := decide_eq_false c78
                                                          clear c78
                                                          have H' := Aside0.mk H
                                                          clear H
                                                          have p255 : 0 ≤ (x99_4 : Int) := of_decide_eq_true (by first | (with_reducible assumption) | assumption)
                                                          have q255 : x99_4 < (x10_2.length : Int) := of_decide_eq_true (by first | (with_reducible assumption) | assumption)
                                                          obtain ⟨ad255, A255_0, c255_0, e255, hx255_0, hl255_0, hi255_0⟩ := at_L7 (Kd.S_reads' HO_10.out).2.2 x99_4 p255 q255
                                                          cases e255
                                                          obtain ⟨ce255, hce255, hMe255, hcc255⟩ := Kd.S_get HO_10.out [] x99_4 p255 (by first | exact q255 | exact of_decide_eq_true (by first | (with_reducible assumption) | assumption) | (have e_ := (Kd.S_reads' HO_10.out).1; omega))
                                                          obtain ⟨ve255_0, rfl, ge255_0⟩ := hMe255
                                                          have hv255_0 := hcc255 0 _ rfl
                                                          rw [Nat.add_zero, show ((Kd.slice 4 Kd.bool)).sz = 1 from rfl, Nat.mul_one] at hv255_0
                                                          replace hv255_0 := Option.some.inj (hv255_0.symm.trans hx255_0)
                                                          rw [hv255_0] at ge255_0
                                                          have HL255_0 := Aside0.mk (show Kd.R Kd.bool 4 _ _ _ _ (rd_L7 x10_2 x99_4) from ge255_0)
                                                          clear hv255_0 ge255_0
                                                          have HX255_0 := Aside0.mk hx255_0
                                                          clear hcc255 hce255
                                                          have HR255_0 := Aside0.mk hi255_0
                                                          have HC255_0 := Aside0.mk hl255_0
                                                          clear hi255_0 hl255_0
                                                          replace p255 := eq_true p255
                                                          replace q255 := eq_true q255
                                                          have p256 : 0 ≤ (x104_5 : Int) := of_decide_eq_true (by first | (with_reducible assumption) | assumption)
                                                          have q256 : x104_5 < ((rd_L7 x10_2 x99_4).length : Int) := of_decide_eq_true (by first | (with_reducible assumption) | assumption)
                                                          obtain ⟨ad256, e256, hx256_0⟩ := Kd.at_bool (by repeat (first | (with_reducible exact HR255_0.out) | (with_reducible refine Kd.C_alloc ?_ _) | (with_reducible refine Kd.C_drewN ?_ _) | (with_reducible refine Kd.C_drew ?_) | exact HR255_0.out)) x104_5 p256 q256
                                                          (try rw [← Nbq76.out] at hx256_0)
                                                          cases e256
                                                          replace p256 := eq_true p256
                                                          replace q256 := eq_true q256
                                                          go_wp2
                                                          go_meet
                                                          case rel => exact ⟨_, (false), (by first | rfl | (simp; done) | (simp [*]; done)), H', ⟨by have := HJ6.out; have := HK2.out; have := HK3.out; have := HK4.out; have := HK5.out; first | omega | exact Nat.le_refl _⟩, ⟨by (try simp only [hl10_2]); (try simp only [hl15_4]); (with_reducible repeat (first | apply Kd.S_alloc | apply Kd.S_drewN | apply Kd.S_drew)); exact HO_10.out⟩, ⟨by (try simp only [hl10_2]); (try simp only [hl15_4]); (with_reducible repeat (first | apply Kd.R_alloc | apply Kd.R_drewN | apply Kd.R_drew)); exact HO_13.out⟩, ⟨by (try simp only [hl10_2]); (try simp only [hl15_4]); (with_reducible repeat (first | apply Kd.R_alloc | apply Kd.R_drewN | apply Kd.R_drew)); exact HO_15.out⟩, ⟨by (try simp only [hl10_2]); (try simp only [hl15_4]); (with_reducible repeat (first | apply Kd.R_alloc | apply Kd.R_drewN | apply Kd.R_drew)); exact HO_17.out⟩, ⟨by (try simp only [hl10_2]); (try simp only [hl15_4]); (with_reducible repeat (first | refine blk_drewN ?_ _ | refine blk_drew ?_ | refine blk_alloc ?_ _)); exact BK223.out⟩, ⟨by repeat (first | (with_reducible first | exact HB.out | apply below_alloc | apply pw_below_drewN | apply below_drew1 | refine below_set ?_ GE223.out) | exact HB.out)⟩⟩
                                                      · replace c77 := Bool.eq_false_iff.mpr c77
                                                        subst c77
                                                        have H1 : (clepsydralaw15_RouteSettles.j6 k5 l2 (l1.length : Int) x10_2 x13_3 x14_3 x15_4 x99_4 x17_5 x104_5 (y248.length : Int) x99_4 (x15_4.length : Int) x104_5 false a0_0 a0_1 a0_2 a0_3 a0_4 a0_5 a0_6 a0_7 a0_8 a0_9 a0_10 a0_11) = some r := by rw [if_neg (show ¬ (false = true) by decide)] at H; exact H
                                                        clear H
                                                        have H := H1
                                                        clear H1
                                                        have H' := Aside0.mk H
                                                        clear H
                                                        have p255 : 0 ≤ (x99_4 : Int) := of_decide_eq_true (by first | (with_reducible assumption) | assumption)
                                                        have q255 : x99_4 < (x10_2.length : Int) := of_decide_eq_true (by first | (with_reducible assumption) | assumption)
                                                        obtain ⟨ad255, A255_0, c255_0, e255, hx255_0, hl255_0, hi255_0⟩ := at_L7 (Kd.S_reads' HO_10.out).2.2 x99_4 p255 q255
                                                        cases e255
                                                        obtain ⟨ce255, hce255, hMe255, hcc255⟩ := Kd.S_get HO_10.out [] x99_4 p255 (by first | exact q255 | exact of_decide_eq_true (by first | (with_reducible assumption) | assumption) | (have e_ := (Kd.S_reads' HO_10.out).1; omega))
                                                        obtain ⟨ve255_0, rfl, ge255_0⟩ := hMe255
                                                        have hv255_0 := hcc255 0 _ rfl
                                                        rw [Nat.add_zero, show ((Kd.slice 4 Kd.bool)).sz = 1 from rfl, Nat.mul_one] at hv255_0
                                                        replace hv255_0 := Option.some.inj (hv255_0.symm.trans hx255_0)
                                                        rw [hv255_0] at ge255_0
                                                        have HL255_0 := Aside0.mk (show Kd.R Kd.bool 4 _ _ _ _ (rd_L7 x10_2 x99_4) from ge255_0)
                                                        clear hv255_0 ge255_0
                                                        have HX255_0 := Aside0.mk hx255_0
                                                        clear hcc255 hce255
                                                        have HR255_0 := Aside0.mk hi255_0
                                                        have HC255_0 := Aside0.mk hl255_0
                                                        clear hi255_0 hl255_0
                                                        replace p255 := eq_true p255
                                                        replace q255 := eq_true q255
                                                        have p256 : 0 ≤ (x104_5 : Int) := of_decide_eq_true (by first | (with_reducible assumption) | assumption)
                                                        have q256 : x104_5 < ((rd_L7 x10_2 x99_4).length : Int) := of_decide_eq_true (by first | (with_reducible assumption) | assumption)
                                                        obtain ⟨ad256, e256, hx256_0⟩ := Kd.at_bool (by repeat (first | (with_reducible exact HR255_0.out) | (with_reducible refine Kd.C_alloc ?_ _) | (with_reducible refine Kd.C_drewN ?_ _) | (with_reducible refine Kd.C_drew ?_) | exact HR255_0.out)) x104_5 p256 q256
                                                        (try rw [← Nbq76.out] at hx256_0)
                                                        cases e256
                                                        replace p256 := eq_true p256
                                                        replace q256 := eq_true q256
                                                        go_wp2
                                                        go_meet
                                                        case rel => exact ⟨_, (false), (by first | rfl | (simp; done) | (simp [*]; done)), H', ⟨by have := HJ6.out; have := HK2.out; have := HK3.out; have := HK4.out; have := HK5.out; first | omega | exact Nat.le_refl _⟩, ⟨by (try simp only [hl10_2]); (try simp only [hl15_4]); (with_reducible repeat (first | apply Kd.S_alloc | apply Kd.S_drewN | apply Kd.S_drew)); exact HO_10.out⟩, ⟨by (try simp only [hl10_2]); (try simp only [hl15_4]); (with_reducible repeat (first | apply Kd.R_alloc | apply Kd.R_drewN | apply Kd.R_drew)); exact HO_13.out⟩, ⟨by (try simp only [hl10_2]); (try simp only [hl15_4]); (with_reducible repeat (first | apply Kd.R_alloc | apply Kd.R_drewN | apply Kd.R_drew)); exact HO_15.out⟩, ⟨by (try simp only [hl10_2]); (try simp only [hl15_4]); (with_reducible repeat (first | apply Kd.R_alloc | apply Kd.R_drewN | apply Kd.R_drew)); exact HO_17.out⟩, ⟨by (try simp only [hl10_2]); (try simp only [hl15_4]); (with_reducible repeat (first | refine blk_drewN ?_ _ | refine blk_drew ?_ | refine blk_alloc ?_ _)); exact BK223.out⟩, ⟨by repeat (first | (with_reducible first | exact HB.out | apply below_alloc | apply pw_below_drewN | apply below_drew1 | refine below_set ?_ GE223.out) | exact HB.out)⟩⟩
                                                    · rw [if_neg c75] at H
                                                      exact absurd H (by simp)
                                                  · rw [if_neg c74] at H
                                                    exact absurd H (by simp)
                                                · rw [if_neg c73] at H
                                                  exact absurd H (by simp)
                                              · rw [if_neg c72] at H
                                                exact absurd H (by simp)
                                            case rest =>
                                              clear HC71
                                              (try clear c2); (try clear p2); (try clear q2); (try clear hx2); (try clear c3); (try clear p3); (try clear q3); (try clear hx3); (try clear c4); (try clear p4); (try clear q4); (try clear hx4); (try clear hf4); (try clear c5); (try clear p5); (try clear q5); (try clear hx5); (try clear hf5); (try clear c6); (try clear p6); (try clear c7); (try clear q7); (try clear c23); (try clear p23); (try clear q23); (try clear hx23); (try clear c25); (try clear p25); (try clear q25); (try clear hx25); (try clear c28); (try clear c28b0); (try clear c29); (try clear c30); (try clear c31); (try clear c32); (try clear p33); (try clear q33); (try clear hx33); (try clear hx36); (try clear c38); (try clear c38b0); (try clear c39); (try clear c39b0); (try clear c40); (try clear c40b0); (try clear c41); (try clear c41b0); (try clear c41b1); (try clear c42); (try clear c42b0); (try clear c43); (try clear c43b0); (try clear p44); (try clear q44); (try clear hx44); (try clear hf44); (try clear c46); (try clear q46); (try clear c48); (try clear c48b0); (try clear c50); (try clear c50b0); (try clear c50b1); (try clear c52); (try clear c52b0); (try clear c53); (try clear c53b0); (try clear p54); (try clear q54); (try clear hx54); (try clear hf54); (try clear c56); (try clear q56); (try clear c58); (try clear c62); (try clear c62b0); (try clear c63); (try clear c63b0); (try clear c63b1); (try clear c64); (try clear c64b0); (try clear c64b1); (try clear p64); (try clear c69); (try clear c69b0); (try clear c70); (try clear c70b0); (try clear c72); (try clear c72b0); (try clear c73); (try clear c73b0); (try clear c74); (try clear c74b0); (try clear c75); (try clear c75b0); (try clear q76); (try clear c77); (try clear c78); (try clear c78b0); (try clear c79); (try clear c79b0); (try clear hcz65_0); (try clear hcz65_1); (try clear hcz65_10); (try clear hcz65_11); (try clear hcz65_2); (try clear hcz65_3); (try clear hcz65_4); (try clear hcz65_5); (try clear hcz65_6); (try clear hcz65_7); (try clear hcz65_8); (try clear hcz65_9); (try clear hfz18_2); (try clear hfz18_3); (try clear hfz18_4); (try clear hfz18_5); (try clear hfz18_6); (try clear hfz18_7); (try clear hfz18_8); (try clear hfz18_9); (try clear hfz20_0); (try clear hfz20_1); (try clear hfz20_10); (try clear hfz20_11); (try clear hfz20_2); (try clear hfz20_3); (try clear hfz20_4); (try clear hfz20_5); (try clear hfz20_6); (try clear hfz20_7); (try clear hfz20_8); (try clear hfz20_9); (try clear hfz65_0); (try clear hfz65_1); (try clear hfz65_10); (try clear hfz65_11); (try clear hfz65_2); (try clear hfz65_3); (try clear hfz65_4); (try clear hfz65_5); (try clear hfz65_6); (try clear hfz65_7); (try clear hfz65_8); (try clear hfz65_9); (try clear hx233_0); (try clear hx234_0); (try clear hx238_0); (try clear hx255_0); (try clear hx256_0); (try clear hx257_0); (try clear hx33_0); (try clear hx36_0); (try clear hx44_0); (try clear hx54_0); (try clear p2); (try clear p23); (try clear p233); (try clear p234); (try clear p238); (try clear p255); (try clear p256); (try clear p257); (try clear p3); (try clear p33); (try clear p4); (try clear p44); (try clear p5); (try clear p54); (try clear p6); (try clear p64); (try clear q2); (try clear q23); (try clear q233); (try clear q234); (try clear q238); (try clear q255); (try clear q256); (try clear q257); (try clear q3); (try clear q33); (try clear q4); (try clear q44); (try clear q46); (try clear q5); (try clear q54); (try clear q56)
                                              obtain ⟨kq, x123_70, rfl, HA, HJ70, HO_10, HO_13, HO_15, HO_17, BK223, HB⟩ := hcut
                                              cases kq with
                                              | zero => exact absurd HA.out (by simp [clepsydralaw15_RouteSettles.j6])
                                              | succ kj70 =>
                                                have H := HA.out
                                                clear HA
                                                simp only [clepsydralaw15_RouteSettles.j6] at H
                                                by_cases c80 : x123_70 = true
                                                · subst c80
                                                  have H1 : (if x17_5.length < 17592186044416 then (clepsydralaw15_RouteSettles.l4 kj70 l2 (l1.length : Int) x10_2 x13_3 x14_3 x15_4 x99_4 (x17_5 ++ [0]) (y248.length : Int) x99_4 (x15_4.length : Int) (wrap64 (x104_5 + 1)) a0_0 a0_1 a0_2 a0_3 a0_4 a0_5 a0_6 a0_7 a0_8 a0_9 a0_10 a0_11) else (none)) = some r := by rw [if_pos rfl] at H; exact H
                                                  clear H
                                                  have H := H1
                                                  clear H1
                                                  by_cases c81 : x17_5.length < 17592186044416
                                                  · rw [if_pos c81] at H
                                                    have LMc81 := Aside0.mk c81
                                                    clear c81
                                                    obtain ⟨y258, hy258⟩ : ∃ y_ : List Int, y_ = (x17_5 ++ [0]) := ⟨_, rfl⟩
                                                    replace H : (clepsydralaw15_RouteSettles.l4 kj70 l2 (l1.length : Int) x10_2 x13_3 x14_3 x15_4 x99_4 y258 (y248.length : Int) x99_4 (x15_4.length : Int) (wrap64 (x104_5 + 1)) a0_0 a0_1 a0_2 a0_3 a0_4 a0_5 a0_6 a0_7 a0_8 a0_9 a0_10 a0_11) = some r := by first | (rw [hy258]; with_reducible exact H) | (have H2_ := (Option.bind_some _ _).symm.trans H; rw [hy258]; with_reducible exact H2_) | (have H2_ := (Option.bind_some _ _).symm.trans H; with_reducible exact H2_) | with_reducible exact H | (rw [hy258]; exact H) | exact H
                                                    have Ny258 := Aside0.mk hy258
                                                    clear hy258
                                                    have H' := Aside0.mk H
                                                    clear H
                                                    go_wp2_with (first | ((with_reducible refine gate_builtin (b := .append) (xs := #[.tmp 124, .tmp 125]) rfl ?_); (try (refine gate_guard (by rfl) ?_; dsimp only)); at_builtin; refine Kd.R_append (Kd.int .i64) (w0 := w) w.heap.size rfl (.tmp 124) (.tmp 125) 24 3 (.int .i64 0) 8 rfl Try.underlying24 info3 rfl (by decide) (by omega) u17 x17_5 0 [.int .i64 0] (fun k_ => some k_ ≠ (u13 : Value).ownBlock ∧ some k_ ≠ (.slice Ao68 x15_4.length co68 : Value).ownBlock) (fun _ => False) rfl rfl ?aP (fun _ hk => hk.elim) ?aF ?aO ?aB ?aS ?aL ?_; (case aP => exact rfl); (case aB => exact (by repeat (first | (with_reducible first | exact HB.out | apply below_alloc | apply pw_below_drewN | apply below_drew1 | refine below_set ?_ GE223.out) | exact HB.out))); (case aF => exact (fun k_ hk => ⟨Kd.fresh' (Kd.R_lt (by (with_reducible repeat (first | apply Kd.R_alloc | apply Kd.R_drewN | apply Kd.R_drew)); exact HO_13.out)) k_ hk, Kd.fresh' (Kd.R_lt (by (with_reducible repeat (first | apply Kd.R_alloc | apply Kd.R_drewN | apply Kd.R_drew)); exact HO_15.out)) k_ hk⟩)); (case aO => exact (by (with_reducible repeat (first | apply Kd.R_alloc | apply Kd.R_drewN | apply Kd.R_drew)); exact HO_17.out)); (case aS => exact (below_size (by repeat (first | (with_reducible first | exact HB.out | apply below_alloc | apply pw_below_drewN | apply below_drew1 | refine below_set ?_ GE223.out) | exact HB.out)))); (case aL => have := LMc81.out; omega); intro v259 w82 ho hb hg hat; rw [← Ny258.out] at ho; have n0_ := Aside0.mk (Kd.S_over' (by (with_reducible repeat (first | apply Kd.S_alloc | apply Kd.S_drewN | apply Kd.S_drew)); exact HO_10.out) (Kd.R_typed (by (with_reducible repeat (first | apply Kd.R_alloc | apply Kd.R_drewN | apply Kd.R_drew)); exact HO_17.out)) (by decide) hg); have n1_ := Aside0.mk (Kd.R_after (ok := (fun k_ => some k_ ≠ (.slice Ao68 x15_4.length co68 : Value).ownBlock)) (by (with_reducible repeat (first | apply Kd.R_alloc | apply Kd.R_drewN | apply Kd.R_drew)); exact HO_13.out) hg hat); have n2_ := Aside0.mk (Kd.R_after (ok := (fun k_ => some k_ ≠ (u13 : Value).ownBlock)) (by (with_reducible repeat (first | apply Kd.R_alloc | apply Kd.R_drewN | apply Kd.R_drew)); exact HO_15.out) hg hat); have n3_ := Aside0.mk (blk_grown (g := gb223) (o := .cells #[.int .i64 a0_0, .int .i64 a0_1, .int .i64 a0_2, .int .i64 a0_3, .int .i64 a0_4, .int .i64 a0_5, .int .i64 a0_6, .int .i64 a0_7, .int .i64 a0_8, .int .i64 a0_9, .int .i64 a0_10, .int .i64 a0_11] 23 (0, 0)) (by (with_reducible repeat (first | refine blk_drewN ?_ _ | refine blk_drew ?_ | refine blk_alloc ?_ _)); exact BK223.out) hg (Kd.R_ne HO_17.out BK223.out (by decide))); have n4_ := Aside0.mk (hb); have n5_ := Aside0.mk (ho); clear HO_10; clear HO_13; clear HO_15; clear BK223; clear HB; clear HO_17; have HO_10 := n0_; have HO_13 := n1_; have HO_15 := n2_; have BK223 := n3_; have HB := n4_; have HO260 := n5_; clear n0_ n1_ n2_ n3_ n4_ n5_; clear ho hb hg hat))
                                                    go_roundg kj70
                                                    case measure => have := HJ6.out; have := HK2.out; have := HK3.out; have := HK4.out; have := HK5.out; have := HJ70.out; omega
                                                    case rel => exact ⟨(y258), (wrap64 (x104_5 + 1)), (by first | rfl | (simp; done) | (simp [*]; done)), H', ⟨by have := HJ6.out; have := HK2.out; have := HK3.out; have := HK4.out; have := HK5.out; have := HJ70.out; omega⟩, ⟨by (try simp only [hl10_2]); (try simp only [hl15_4]); (with_reducible repeat (first | apply Kd.S_alloc | apply Kd.S_drewN | apply Kd.S_drew)); exact HO_10.out⟩, ⟨by (try simp only [hl10_2]); (try simp only [hl15_4]); (with_reducible repeat (first | apply Kd.R_alloc | apply Kd.R_drewN | apply Kd.R_drew)); exact HO_13.out⟩, ⟨by (try simp only [hl10_2]); (try simp only [hl15_4]); (with_reducible repeat (first | apply Kd.R_alloc | apply Kd.R_drewN | apply Kd.R_drew)); exact HO_15.out⟩, ⟨by (try simp only [hl10_2]); (try simp only [hl15_4]); (with_reducible repeat (first | apply Kd.R_alloc | apply Kd.R_drewN | apply Kd.R_drew)); exact HO260.out⟩, ⟨by (try simp only [hl10_2]); (try simp only [hl15_4]); (with_reducible repeat (first | refine blk_drewN ?_ _ | refine blk_drew ?_ | refine blk_alloc ?_ _)); exact BK223.out⟩, ⟨by repeat (first | (with_reducible first | exact HB.out | apply below_alloc | apply pw_below_drewN | apply below_drew1 | refine below_set ?_ GE223.out) | exact HB.out)⟩⟩
                                                  · rw [if_neg c81] at H
                                                    exact absurd H (by simp)
                                                · replace c80 := Bool.eq_false_iff.mpr c80
                                                  subst c80
                                                  have H1 : (if 0 ≤ x99_4 then (if x99_4 < (x10_2.length : Int) then (if 0 ≤ x104_5 then (if x104_5 < ((rd_L7 x10_2 x99_4).length : Int) then (if rdOf false (rd_L7 x10_2 x99_4) x104_5 = true then (if x104_5 < (x13_3.length : Int) then (if x17_5.length < 17592186044416 then (clepsydralaw15_RouteSettles.l4 kj70 l2 (l1.length : Int) x10_2 x13_3 x14_3 x15_4 x99_4 (x17_5 ++ [rd x13_3 x104_5]) (y248.length : Int) x99_4 (x15_4.length : Int) (wrap64 (x104_5 + 1)) a0_0 a0_1 a0_2 a0_3 a0_4 a0_5 a0_6 a0_7 a0_8 a0_9 a0_10 a0_11) else (none)) else (none)) else (clepsydralaw15_RouteSettles.l4 kj70 l2 (l1.length : Int) x10_2 x13_3 x14_3 x15_4 x99_4 x17_5 (y248.length : Int) x99_4 (x15_4.length : Int) (wrap64 (x104_5 + 1)) a0_0 a0_1 a0_2 a0_3 a0_4 a0_5 a0_6 a0_7 a0_8 a0_9 a0_10 a0_11)) else (none)) else (none)) else (none)) else (none)) = some r := by rw [if_neg (show ¬ (false = true) by decide)] at H; exact H
                                                  clear H
                                                  have H := H1
                                                  clear H1
                                                  by_cases c83 : 0 ≤ x99_4
                                                  · rw [if_pos c83] at H
                                                    have c83b0 : decide (0 ≤ x99_4) = true := decide_eq_true c83
                                                    clear c83
                                                    by_cases c84 : x99_4 < (x10_2.length : Int)
                                                    · rw [if_pos c84] at H
                                                      have c84b0 : decide (x99_4 < (x10_2.length : Int)) = true := decide_eq_true c84
                                                      clear c84
                                                      by_cases c85 : 0 ≤ x104_5
                                                      · rw [if_pos c85] at H
                                                        have c85b0 : decide (0 ≤ x104_5) = true := decide_eq_true c85
                                                        clear c85
                                                        by_cases c86 : x104_5 < ((rd_L7 x10_2 x99_4).length : Int)
                                                        · rw [if_pos c86] at H
                                                          have c86b0 : decide (x104_5 < ((rd_L7 x10_2 x99_4).length : Int)) = true := decide_eq_true c86
                                                          clear c86
                                                          obtain ⟨bq87, hbq87⟩ : ∃ b_ : Bool, b_ = (rdOf false (rd_L7 x10_2 x99_4) x104_5) := ⟨_, rfl⟩
                                                          replace H : (if bq87 = true then (if x104_5 < (x13_3.length : Int) then (if x17_5.length < 17592186044416 then (clepsydralaw15_RouteSettles.l4 kj70 l2 (l1.length : Int) x10_2 x13_3 x14_3 x15_4 x99_4 (x17_5 ++ [rd x13_3 x104_5]) (y248.length : Int) x99_4 (x15_4.length : Int) (wrap64 (x104_5 + 1)) a0_0 a0_1 a0_2 a0_3 a0_4 a0_5 a0_6 a0_7 a0_8 a0_9 a0_10 a0_11) else (none)) else (none)) else (clepsydralaw15_RouteSettles.l4 kj70 l2 (l1.length : Int) x10_2 x13_3 x14_3 x15_4 x99_4 x17_5 (y248.length : Int) x99_4 (x15_4.length : Int) (wrap64 (x104_5 + 1)) a0_0 a0_1 a0_2 a0_3 a0_4 a0_5 a0_6 a0_7 a0_8 a0_9 a0_10 a0_11)) = some r := by rw [← hbq87] at H; exact H
                                                          have Nbq87 := Aside0.mk hbq87
                                                          clear hbq87
                                                          by_cases c88 : bq87 = true
                                                          · subst c88
                                                            have H1 : (if x104_5 < (x13_3.length : Int) then (if x17_5.length < 17592186044416 then (clepsydralaw15_RouteSettles.l4 kj70 l2 (l1.length : Int) x10_2 x13_3 x14_3 x15_4 x99_4 (x17_5 ++ [rd x13_3 x104_5]) (y248.length : Int) x99_4 (x15_4.length : Int) (wrap64 (x104_5 + 1)) a0_0 a0_1 a0_2 a0_3 a0_4 a0_5 a0_6 a0_7 a0_8 a0_9 a0_10 a0_11) else (none)) else (none)) = some r := by rw [if_pos rfl] at H; exact H
                                                            clear H
                                                            have H := H1
                                                            clear H1
                                                            by_cases c89 : x104_5 < (x13_3.length : Int)
                                                            · rw [if_pos c89] at H
                                                              have c89b0 : decide (x104_5 < (x13_3.length : Int)) = true := decide_eq_true c89
                                                              clear c89
                                                              by_cases c90 : x17_5.length < 17592186044416
                                                              · rw [if_pos c90] at H
                                                                have LMc90 := Aside0.mk c90
                                                                clear c90
                                                                obtain ⟨y264, hy264⟩ : ∃ y_ : List Int, y_ = (x17_5 ++ [rd x13_3 x104_5]) := ⟨_, rfl⟩
                                                                replace H : (clepsydralaw15_RouteSettles.l4 kj70 l2 (l1.length : Int) x10_2 x13_3 x14_3 x15_4 x99_4 y264 (y248.length : Int) x99_4 (x15_4.length : Int) (wrap64 (x104_5 + 1)) a0_0 a0_1 a0_2 a0_3 a0_4 a0_5 a0_6 a0_7 a0_8 a0_9 a0_10 a0_11) = some r := by first | (rw [hy264]; with_reducible exact H) | (have H2_ := (Option.bind_some _ _).symm.trans H; rw [hy264]; with_reducible exact H2_) | (have H2_ := (Option.bind_some _ _).symm.trans H; with_reducible exact H2_) | with_reducible exact H | (rw [hy264]; exact H) | exact H
                                                                have Ny264 := Aside0.mk hy264
                                                                clear hy264
                                                                have H' := Aside0.mk H
                                                                clear H
                                                                have p261 : 0 ≤ (x99_4 : Int) := of_decide_eq_true (by first | (with_reducible assumption) | assumption)
                                                                have q261 : x99_4 < (x10_2.length : Int) := of_decide_eq_true (by first | (with_reducible assumption) | assumption)
                                                                obtain ⟨ad261, A261_0, c261_0, e261, hx261_0, hl261_0, hi261_0⟩ := at_L7 (Kd.S_reads' HO_10.out).2.2 x99_4 p261 q261
                                                                cases e261
                                                                obtain ⟨ce261, hce261, hMe261, hcc261⟩ := Kd.S_get HO_10.out [] x99_4 p261 (by first | exact q261 | exact of_decide_eq_true (by first | (with_reducible assumption) | assumption) | (have e_ := (Kd.S_reads' HO_10.out).1; omega))
                                                                obtain ⟨ve261_0, rfl, ge261_0⟩ := hMe261
                                                                have hv261_0 := hcc261 0 _ rfl
                                                                rw [Nat.add_zero, show ((Kd.slice 4 Kd.bool)).sz = 1 from rfl, Nat.mul_one] at hv261_0
                                                                replace hv261_0 := Option.some.inj (hv261_0.symm.trans hx261_0)
                                                                rw [hv261_0] at ge261_0
                                                                have HL261_0 := Aside0.mk (show Kd.R Kd.bool 4 _ _ _ _ (rd_L7 x10_2 x99_4) from ge261_0)
                                                                clear hv261_0 ge261_0
                                                                have HX261_0 := Aside0.mk hx261_0
                                                                clear hcc261 hce261
                                                                have HR261_0 := Aside0.mk hi261_0
                                                                have HC261_0 := Aside0.mk hl261_0
                                                                clear hi261_0 hl261_0
                                                                replace p261 := eq_true p261
                                                                replace q261 := eq_true q261
                                                                have p262 : 0 ≤ (x104_5 : Int) := of_decide_eq_true (by first | (with_reducible assumption) | assumption)
                                                                have q262 : x104_5 < ((rd_L7 x10_2 x99_4).length : Int) := of_decide_eq_true (by first | (with_reducible assumption) | assumption)
                                                                obtain ⟨ad262, e262, hx262_0⟩ := Kd.at_bool (by repeat (first | (with_reducible exact HR261_0.out) | (with_reducible refine Kd.C_alloc ?_ _) | (with_reducible refine Kd.C_drewN ?_ _) | (with_reducible refine Kd.C_drew ?_) | exact HR261_0.out)) x104_5 p262 q262
                                                                (try rw [← Nbq87.out] at hx262_0)
                                                                cases e262
                                                                replace p262 := eq_true p262
                                                                replace q262 := eq_true q262
                                                                obtain ⟨Ao91, co91, eo91⟩ := Kd.R_slice HO_13.out
                                                                subst eo91
                                                                have p263 : 0 ≤ (x104_5 : Int) := of_decide_eq_true (by first | (with_reducible assumption) | assumption)
                                                                have q263 : x104_5 < (x13_3.length : Int) := of_decide_eq_true (by first | (with_reducible assumption) | assumption)
                                                                obtain ⟨ad263, e263, hx263_0⟩ := Kd.at_int (Kd.R_reads' HO_13.out).2.2 x104_5 p263 q263
                                                                cases e263
                                                                replace p263 := eq_true p263
                                                                replace q263 := eq_true q263
                                                                go_wp2_with (first | ((with_reducible refine gate_builtin (b := .append) (xs := #[.tmp 134, .tmp 139]) rfl ?_); (try (refine gate_guard (by rfl) ?_; dsimp only)); at_builtin; refine Kd.R_append (Kd.int .i64) (w0 := w) w.heap.size rfl (.tmp 134) (.tmp 139) 24 3 (.int .i64 0) 8 rfl Try.underlying24 info3 rfl (by decide) (by omega) u17 x17_5 (rd x13_3 x104_5) [.int .i64 (rd x13_3 x104_5)] (fun k_ => some k_ ≠ (.slice (some ad263) x13_3.length co91 : Value).ownBlock ∧ some k_ ≠ (.slice Ao68 x15_4.length co68 : Value).ownBlock) (fun _ => False) rfl rfl ?aP (fun _ hk => hk.elim) ?aF ?aO ?aB ?aS ?aL ?_; (case aP => exact rfl); (case aB => exact (by repeat (first | (with_reducible first | exact HB.out | apply below_alloc | apply pw_below_drewN | apply below_drew1 | refine below_set ?_ GE223.out) | exact HB.out))); (case aF => exact (fun k_ hk => ⟨Kd.fresh' (Kd.R_lt (by (with_reducible repeat (first | apply Kd.R_alloc | apply Kd.R_drewN | apply Kd.R_drew)); exact HO_13.out)) k_ hk, Kd.fresh' (Kd.R_lt (by (with_reducible repeat (first | apply Kd.R_alloc | apply Kd.R_drewN | apply Kd.R_drew)); exact HO_15.out)) k_ hk⟩)); (case aO => exact (by (with_reducible repeat (first | apply Kd.R_alloc | apply Kd.R_drewN | apply Kd.R_drew)); exact HO_17.out)); (case aS => exact (below_size (by repeat (first | (with_reducible first | exact HB.out | apply below_alloc | apply pw_below_drewN | apply below_drew1 | refine below_set ?_ GE223.out) | exact HB.out)))); (case aL => have := LMc90.out; omega); intro v265 w92 ho hb hg hat; rw [← Ny264.out] at ho; have n0_ := Aside0.mk (Kd.S_over' (by (with_reducible repeat (first | apply Kd.S_alloc | apply Kd.S_drewN | apply Kd.S_drew)); exact HO_10.out) (Kd.R_typed (by (with_reducible repeat (first | apply Kd.R_alloc | apply Kd.R_drewN | apply Kd.R_drew)); exact HO_17.out)) (by decide) hg); have n1_ := Aside0.mk (Kd.R_after (ok := (fun k_ => some k_ ≠ (.slice Ao68 x15_4.length co68 : Value).ownBlock)) (by (with_reducible repeat (first | apply Kd.R_alloc | apply Kd.R_drewN | apply Kd.R_drew)); exact HO_13.out) hg hat); have n2_ := Aside0.mk (Kd.R_after (ok := (fun k_ => some k_ ≠ (.slice (some ad263) x13_3.length co91 : Value).ownBlock)) (by (with_reducible repeat (first | apply Kd.R_alloc | apply Kd.R_drewN | apply Kd.R_drew)); exact HO_15.out) hg hat); have n3_ := Aside0.mk (blk_grown (g := gb223) (o := .cells #[.int .i64 a0_0, .int .i64 a0_1, .int .i64 a0_2, .int .i64 a0_3, .int .i64 a0_4, .int .i64 a0_5, .int .i64 a0_6, .int .i64 a0_7, .int .i64 a0_8, .int .i64 a0_9, .int .i64 a0_10, .int .i64 a0_11] 23 (0, 0)) (by (with_reducible repeat (first | refine blk_drewN ?_ _ | refine blk_drew ?_ | refine blk_alloc ?_ _)); exact BK223.out) hg (Kd.R_ne HO_17.out BK223.out (by decide))); have n4_ := Aside0.mk (Kd.R_over' (by (with_reducible repeat (first | apply Kd.R_alloc | apply Kd.R_drewN | apply Kd.R_drew)); exact HL261_0.out) (Kd.R_typed (by (with_reducible repeat (first | apply Kd.R_alloc | apply Kd.R_drewN | apply Kd.R_drew)); exact HO_17.out)) (by decide) hg); have n5_ := Aside0.mk (hb); have n6_ := Aside0.mk (ho); clear HO_10; clear HO_13; clear HO_15; clear BK223; clear HL261_0; clear HB; clear HO_17; have HO_10 := n0_; have HO_13 := n1_; have HO_15 := n2_; have BK223 := n3_; have HL261_0 := n4_; have HB := n5_; have HO266 := n6_; clear n0_ n1_ n2_ n3_ n4_ n5_ n6_; clear ho hb hg hat))
                                                                go_roundg kj70
                                                                case measure => have := HJ6.out; have := HK2.out; have := HK3.out; have := HK4.out; have := HK5.out; have := HJ70.out; omega
                                                                case rel => exact ⟨(y264), (wrap64 (x104_5 + 1)), (by first | rfl | (simp; done) | (simp [*]; done)), H', ⟨by have := HJ6.out; have := HK2.out; have := HK3.out; have := HK4.out; have := HK5.out; have := HJ70.out; omega⟩, ⟨by (try simp only [hl10_2]); (try simp only [hl15_4]); (with_reducible repeat (first | apply Kd.S_alloc | apply Kd.S_drewN | apply Kd.S_drew)); exact HO_10.out⟩, ⟨by (try simp only [hl10_2]); (try simp only [hl15_4]); (with_reducible repeat (first | apply Kd.R_alloc | apply Kd.R_drewN | apply Kd.R_drew)); exact HO_13.out⟩, ⟨by (try simp only [hl10_2]); (try simp only [hl15_4]); (with_reducible repeat (first | apply Kd.R_alloc | apply Kd.R_drewN | apply Kd.R_drew)); exact HO_15.out⟩, ⟨by (try simp only [hl10_2]); (try simp only [hl15_4]); (with_reducible repeat (first | apply Kd.R_alloc | apply Kd.R_drewN | apply Kd.R_drew)); exact HO266.out⟩, ⟨by (try simp only [hl10_2]); (try simp only [hl15_4]); (with_reducible repeat (first | refine blk_drewN ?_ _ | refine blk_drew ?_ | refine blk_alloc ?_ _)); exact BK223.out⟩, ⟨by repeat (first | (with_reducible first | exact HB.out | apply below_alloc | apply pw_below_drewN | apply below_drew1 | refine below_set ?_ GE223.out) | exact HB.out)⟩⟩
                                                              · rw [if_neg c90] at H
                                                                exact absurd H (by simp)
                                                            · rw [if_neg c89] at H
                                                              exact absurd H (by simp)
                                                          · replace c88 := Bool.eq_false_iff.mpr c88
                                                            subst c88
                                                            have H1 : (clepsydralaw15_RouteSettles.l4 kj70 l2 (l1.length : Int) x10_2 x13_3 x14_3 x15_4 x99_4 x17_5 (y248.length : Int) x99_4 (x15_4.length : Int) (wrap64 (x104_5 + 1)) a0_0 a0_1 a0_2 a0_3 a0_4 a0_5 a0_6 a0_7 a0_8 a0_9 a0_10 a0_11) = some r := by rw [if_neg (show ¬ (false = true) by decide)] at H; exact H
                                                            clear H
                                                            have H := H1
                                                            clear H1
                                                            have H' := Aside0.mk H
                                                            clear H
                                                            have p261 : 0 ≤ (x99_4 : Int) := of_decide_eq_true (by first | (with_reducible assumption) | assumption)
                                                            have q261 : x99_4 < (x10_2.length : Int) := of_decide_eq_true (by first | (with_reducible assumption) | assumption)
                                                            obtain ⟨ad261, A261_0, c261_0, e261, hx261_0, hl261_0, hi261_0⟩ := at_L7 (Kd.S_reads' HO_10.out).2.2 x99_4 p261 q261
                                                            cases e261
                                                            obtain ⟨ce261, hce261, hMe261, hcc261⟩ := Kd.S_get HO_10.out [] x99_4 p261 (by first | exact q261 | exact of_decide_eq_true (by first | (with_reducible assumption) | assumption) | (have e_ := (Kd.S_reads' HO_10.out).1; omega))
                                                            obtain ⟨ve261_0, rfl, ge261_0⟩ := hMe261
                                                            have hv261_0 := hcc261 0 _ rfl
                                                            rw [Nat.add_zero, show ((Kd.slice 4 Kd.bool)).sz = 1 from rfl, Nat.mul_one] at hv261_0
                                                            replace hv261_0 := Option.some.inj (hv261_0.symm.trans hx261_0)
                                                            rw [hv261_0] at ge261_0
                                                            have HL261_0 := Aside0.mk (show Kd.R Kd.bool 4 _ _ _ _ (rd_L7 x10_2 x99_4) from ge261_0)
                                                            clear hv261_0 ge261_0
                                                            have HX261_0 := Aside0.mk hx261_0
                                                            clear hcc261 hce261
                                                            have HR261_0 := Aside0.mk hi261_0
                                                            have HC261_0 := Aside0.mk hl261_0
                                                            clear hi261_0 hl261_0
                                                            replace p261 := eq_true p261
                                                            replace q261 := eq_true q261
                                                            have p262 : 0 ≤ (x104_5 : Int) := of_decide_eq_true (by first | (with_reducible assumption) | assumption)
                                                            have q262 : x104_5 < ((rd_L7 x10_2 x99_4).length : Int) := of_decide_eq_true (by first | (with_reducible assumption) | assumption)
                                                            obtain ⟨ad262, e262, hx262_0⟩ := Kd.at_bool (by repeat (first | (with_reducible exact HR261_0.out) | (with_reducible refine Kd.C_alloc ?_ _) | (with_reducible refine Kd.C_drewN ?_ _) | (with_reducible refine Kd.C_drew ?_) | exact HR261_0.out)) x104_5 p262 q262
                                                            (try rw [← Nbq87.out] at hx262_0)
                                                            cases e262
                                                            replace p262 := eq_true p262
                                                            replace q262 := eq_true q262
                                                            go_wp2
                                                            go_roundg kj70
                                                            case measure => have := HJ6.out; have := HK2.out; have := HK3.out; have := HK4.out; have := HK5.out; have := HJ70.out; omega
                                                            case rel => exact ⟨(x17_5), (wrap64 (x104_5 + 1)), (by first | rfl | (simp; done) | (simp [*]; done)), H', ⟨by have := HJ6.out; have := HK2.out; have := HK3.out; have := HK4.out; have := HK5.out; have := HJ70.out; omega⟩, ⟨by (try simp only [hl10_2]); (try simp only [hl15_4]); (with_reducible repeat (first | apply Kd.S_alloc | apply Kd.S_drewN | apply Kd.S_drew)); exact HO_10.out⟩, ⟨by (try simp only [hl10_2]); (try simp only [hl15_4]); (with_reducible repeat (first | apply Kd.R_alloc | apply Kd.R_drewN | apply Kd.R_drew)); exact HO_13.out⟩, ⟨by (try simp only [hl10_2]); (try simp only [hl15_4]); (with_reducible repeat (first | apply Kd.R_alloc | apply Kd.R_drewN | apply Kd.R_drew)); exact HO_15.out⟩, ⟨by (try simp only [hl10_2]); (try simp only [hl15_4]); (with_reducible repeat (first | apply Kd.R_alloc | apply Kd.R_drewN | apply Kd.R_drew)); exact HO_17.out⟩, ⟨by (try simp only [hl10_2]); (try simp only [hl15_4]); (with_reducible repeat (first | refine blk_drewN ?_ _ | refine blk_drew ?_ | refine blk_alloc ?_ _)); exact BK223.out⟩, ⟨by repeat (first | (with_reducible first | exact HB.out | apply below_alloc | apply pw_below_drewN | apply below_drew1 | refine below_set ?_ GE223.out) | exact HB.out)⟩⟩
                                                        · rw [if_neg c86] at H
                                                          exact absurd H (by simp)
                                                      · rw [if_neg c85] at H
                                                        exact absurd H (by simp)
                                                    · rw [if_neg c84] at H
                                                      exact absurd H (by simp)
                                                  · rw [if_neg c83] at H
                                                    exact absurd H (by simp)
                                          · rw [if_neg c70] at H
                                            have c70b0 : decide (x104_5 < (x15_4.length : Int)) = false := decide_eq_false c70
                                            clear c70
                                            replace H := Option.bind_eq_some_iff.mp H
                                            obtain ⟨t251, A930, H⟩ := H
                                            replace H : (if 0 ≤ x99_4 then (if x99_4 < (x15_4.length : Int) then ((some (x15_4.set (x99_4 : Int).toNat t251 : List Int)).bind fun y252 => (if x99_4 < (l2.length : Int) then (if rdOf false l2 x99_4 = true then (clepsydralaw15_RouteSettles.l3 k5 l2 (l1.length : Int) x10_2 x13_3 x14_3 (y252.set (x99_4 : Int).toNat 0) (y248.length : Int) (wrap64 (x99_4 + 1)) a0_0 a0_1 a0_2 a0_3 a0_4 a0_5 a0_6 a0_7 a0_8 a0_9 a0_10 a0_11) else (clepsydralaw15_RouteSettles.l3 k5 l2 (l1.length : Int) x10_2 x13_3 x14_3 y252 (y248.length : Int) (wrap64 (x99_4 + 1)) a0_0 a0_1 a0_2 a0_3 a0_4 a0_5 a0_6 a0_7 a0_8 a0_9 a0_10 a0_11)) else (none))) else (none)) else (none)) = some r := H
                                            have A93 := Aside0.mk A930
                                            clear A930
                                            by_cases c94 : 0 ≤ x99_4
                                            · rw [if_pos c94] at H
                                              have c94b0 : decide (0 ≤ x99_4) = true := decide_eq_true c94
                                              clear c94
                                              by_cases c95 : x99_4 < (x15_4.length : Int)
                                              · rw [if_pos c95] at H
                                                have c95b0 : decide (x99_4 < (x15_4.length : Int)) = true := decide_eq_true c95
                                                clear c95
                                                obtain ⟨y252, hy252⟩ : ∃ y_ : List Int, y_ = (x15_4.set (x99_4 : Int).toNat t251) := ⟨_, rfl⟩
                                                replace H : (if x99_4 < (l2.length : Int) then (if rdOf false l2 x99_4 = true then (clepsydralaw15_RouteSettles.l3 k5 l2 (l1.length : Int) x10_2 x13_3 x14_3 (y252.set (x99_4 : Int).toNat 0) (y248.length : Int) (wrap64 (x99_4 + 1)) a0_0 a0_1 a0_2 a0_3 a0_4 a0_5 a0_6 a0_7 a0_8 a0_9 a0_10 a0_11) else (clepsydralaw15_RouteSettles.l3 k5 l2 (l1.length : Int) x10_2 x13_3 x14_3 y252 (y248.length : Int) (wrap64 (x99_4 + 1)) a0_0 a0_1 a0_2 a0_3 a0_4 a0_5 a0_6 a0_7 a0_8 a0_9 a0_10 a0_11)) else (none)) = some r := by first | (rw [hy252]; with_reducible exact H) | (have H2_ := (Option.bind_some _ _).symm.trans H; rw [hy252]; with_reducible exact H2_) | (have H2_ := (Option.bind_some _ _).symm.trans H; with_reducible exact H2_) | with_reducible exact H | (rw [hy252]; exact H) | exact H
                                                have Ny252 := Aside0.mk hy252
                                                clear hy252
                                                by_cases c97 : x99_4 < (l2.length : Int)
                                                · rw [if_pos c97] at H
                                                  have c97b0 : decide (x99_4 < (l2.length : Int)) = true := decide_eq_true c97
                                                  clear c97
                                                  obtain ⟨bq98, hbq98⟩ : ∃ b_ : Bool, b_ = (rdOf false l2 x99_4) := ⟨_, rfl⟩
                                                  replace H : (if bq98 = true then (clepsydralaw15_RouteSettles.l3 k5 l2 (l1.length : Int) x10_2 x13_3 x14_3 (y252.set (x99_4 : Int).toNat 0) (y248.length : Int) (wrap64 (x99_4 + 1)) a0_0 a0_1 a0_2 a0_3 a0_4 a0_5 a0_6 a0_7 a0_8 a0_9 a0_10 a0_11) else (clepsydralaw15_RouteSettles.l3 k5 l2 (l1.length : Int) x10_2 x13_3 x14_3 y252 (y248.length : Int) (wrap64 (x99_4 + 1)) a0_0 a0_1 a0_2 a0_3 a0_4 a0_5 a0_6 a0_7 a0_8 a0_9 a0_10 a0_11)) = some r := by rw [← hbq98] at H; exact H
                                                  have Nbq98 := Aside0.mk hbq98
                                                  clear hbq98
                                                  by_cases c99 : bq98 = true
                                                  · subst c99
                                                    have H1 : (clepsydralaw15_RouteSettles.l3 k5 l2 (l1.length : Int) x10_2 x13_3 x14_3 (y252.set (x99_4 : Int).toNat 0) (y248.length : Int) (wrap64 (x99_4 + 1)) a0_0 a0_1 a0_2 a0_3 a0_4 a0_5 a0_6 a0_7 a0_8 a0_9 a0_10 a0_11) = some r := by rw [if_pos rfl] at H; exact H
                                                    clear H
                                                    have H := H1
                                                    clear H1
                                                    obtain ⟨y254, hy254⟩ : ∃ y_ : List Int, y_ = (y252.set (x99_4 : Int).toNat 0) := ⟨_, rfl⟩
                                                    replace H : (clepsydralaw15_RouteSettles.l3 k5 l2 (l1.length : Int) x10_2 x13_3 x14_3 y254 (y248.length : Int) (wrap64 (x99_4 + 1)) a0_0 a0_1 a0_2 a0_3 a0_4 a0_5 a0_6 a0_7 a0_8 a0_9 a0_10 a0_11) = some r := by first | (rw [hy254]; with_reducible exact H) | (have H2_ := (Option.bind_some _ _).symm.trans H; rw [hy254]; with_reducible exact H2_) | (have H2_ := (Option.bind_some _ _).symm.trans H; with_reducible exact H2_) | with_reducible exact H | (rw [hy254]; exact H) | exact H
                                                    have Ny254 := Aside0.mk hy254
                                                    clear hy254
                                                    have H' := Aside0.mk H
                                                    clear H
                                                    have hcz101_0 : wr.cell? ⟨gb223, 0, none⟩ = some (.int .i64 a0_0) := (blk_cell BK223.out 0).trans rfl
                                                    have hcz101_1 : wr.cell? ⟨gb223, 1, none⟩ = some (.int .i64 a0_1) := (blk_cell BK223.out 1).trans rfl
                                                    have hcz101_2 : wr.cell? ⟨gb223, 2, none⟩ = some (.int .i64 a0_2) := (blk_cell BK223.out 2).trans rfl
                                                    have hcz101_3 : wr.cell? ⟨gb223, 3, none⟩ = some (.int .i64 a0_3) := (blk_cell BK223.out 3).trans rfl
                                                    have hcz101_4 : wr.cell? ⟨gb223, 4, none⟩ = some (.int .i64 a0_4) := (blk_cell BK223.out 4).trans rfl
                                                    have hcz101_5 : wr.cell? ⟨gb223, 5, none⟩ = some (.int .i64 a0_5) := (blk_cell BK223.out 5).trans rfl
                                                    have hcz101_6 : wr.cell? ⟨gb223, 6, none⟩ = some (.int .i64 a0_6) := (blk_cell BK223.out 6).trans rfl
                                                    have hcz101_7 : wr.cell? ⟨gb223, 7, none⟩ = some (.int .i64 a0_7) := (blk_cell BK223.out 7).trans rfl
                                                    have hcz101_8 : wr.cell? ⟨gb223, 8, none⟩ = some (.int .i64 a0_8) := (blk_cell BK223.out 8).trans rfl
                                                    have hcz101_9 : wr.cell? ⟨gb223, 9, none⟩ = some (.int .i64 a0_9) := (blk_cell BK223.out 9).trans rfl
                                                    have hcz101_10 : wr.cell? ⟨gb223, 10, none⟩ = some (.int .i64 a0_10) := (blk_cell BK223.out 10).trans rfl
                                                    have hcz101_11 : wr.cell? ⟨gb223, 11, none⟩ = some (.int .i64 a0_11) := (blk_cell BK223.out 11).trans rfl
                                                    have hfz101_0 := blk_frozen BK223.out 0
                                                    have hfz101_1 := blk_frozen BK223.out 1
                                                    have hfz101_2 := blk_frozen BK223.out 2
                                                    have hfz101_3 := blk_frozen BK223.out 3
                                                    have hfz101_4 := blk_frozen BK223.out 4
                                                    have hfz101_5 := blk_frozen BK223.out 5
                                                    have hfz101_6 := blk_frozen BK223.out 6
                                                    have hfz101_7 := blk_frozen BK223.out 7
                                                    have hfz101_8 := blk_frozen BK223.out 8
                                                    have hfz101_9 := blk_frozen BK223.out 9
                                                    have hfz101_10 := blk_frozen BK223.out 10
                                                    have hfz101_11 := blk_frozen BK223.out 11
                                                    obtain ⟨Ao102, co102, eo102⟩ := Kd.R_slice HO_17.out
                                                    subst eo102
                                                    go_wp2_with (first | ((with_reducible refine gate_callee (f := 14) rfl ?_); refine goesL_ (some 146) rfl rfl Try.func14 (by kernel_rfl) rfl #[.agg #[.int .i64 a0_0, .int .i64 a0_1, .int .i64 a0_2, .int .i64 a0_3, .int .i64 a0_4, .int .i64 a0_5, .int .i64 a0_6, .int .i64 a0_7, .int .i64 a0_8, .int .i64 a0_9, .int .i64 a0_10, .int .i64 a0_11], .slice Ao102 x17_5.length co102] rfl (by (try simp only [List.map_toArray, List.map_cons, List.map_nil]); first | done | rfl | (simp only [List.length_drop, List.length_take]; rfl)) ?_; (with_reducible refine (route_Next.calls k5 a0_0 a0_1 a0_2 a0_3 a0_4 a0_5 a0_6 a0_7 a0_8 a0_9 a0_10 a0_11 _ _ x17_5 t251 _ ?side1 ?side2 A93.out).mono ?_); (case side1 => repeat (first | exact (Kd.R_reads' HO_17.out).2.2 | (with_reducible refine Kd.C_alloc ?_ _) | (with_reducible refine Kd.C_drewN ?_ _) | (with_reducible refine Kd.C_drew ?_))); (case side2 => exact (Kd.R_reads' HO_17.out).2.1); rintro e w103 ⟨rfl, hb⟩; refine ⟨_, rfl, ?_⟩; have n0_ := Aside0.mk (Kd.S_below (by (with_reducible repeat (first | apply Kd.S_alloc | apply Kd.S_drewN | apply Kd.S_drew)); exact HO_10.out) hb); have n1_ := Aside0.mk (Kd.R_below (by (with_reducible repeat (first | apply Kd.R_alloc | apply Kd.R_drewN | apply Kd.R_drew)); exact HO_13.out) hb); have n2_ := Aside0.mk (Kd.R_below (by (with_reducible repeat (first | apply Kd.R_alloc | apply Kd.R_drewN | apply Kd.R_drew)); exact HO_15.out) hb); have n3_ := Aside0.mk (Kd.R_below (by (with_reducible repeat (first | apply Kd.R_alloc | apply Kd.R_drewN | apply Kd.R_drew)); exact HO_17.out) hb); have n4_ := Aside0.mk (blk_below (g := gb223) (o := .cells #[.int .i64 a0_0, .int .i64 a0_1, .int .i64 a0_2, .int .i64 a0_3, .int .i64 a0_4, .int .i64 a0_5, .int .i64 a0_6, .int .i64 a0_7, .int .i64 a0_8, .int .i64 a0_9, .int .i64 a0_10, .int .i64 a0_11] 23 (0, 0)) (by (with_reducible repeat (first | refine blk_drewN ?_ _ | refine blk_drew ?_ | refine blk_alloc ?_ _)); exact BK223.out) hb); have n5_ := Aside0.mk (below_step (by repeat (first | (with_reducible first | exact HB.out | apply below_alloc | apply pw_below_drewN | apply below_drew1 | refine below_set ?_ GE223.out) | exact HB.out)) hb); clear HO_10; clear HO_13; clear HO_15; clear HO_17; clear BK223; clear HB; have HO_10 := n0_; have HO_13 := n1_; have HO_15 := n2_; have HO_17 := n3_; have BK223 := n4_; have HB := n5_; clear n0_ n1_ n2_ n3_ n4_ n5_; (try clear hb); (try clear hb2); (try clear hk); (try clear hi); have p96 : 0 ≤ (x99_4 : Int) := of_decide_eq_true (by first | (with_reducible assumption) | assumption); have q96 : (x99_4 : Int) < ((x15_4.length : Int) : Int) := of_decide_eq_true (by first | (with_reducible assumption) | assumption); obtain ⟨go96, co96, eo96, gb96, gl96, cl96, HG96⟩ := Kd.R_form HO_15.out (by omega); (first | cases eo96 | (injection eo96 with ea_ en_ ec_; (first | subst ea_ | (injection ea_ with ea_; subst ea_)); subst ec_; clear en_)); have GB96 := Aside0.mk gb96; have GG96 := Aside0.mk HG96; clear gb96 gl96 HG96; obtain ⟨hx96_0, hf96_0⟩ := Kd.R_celln 0 HO_15.out (x99_4 : Int) p96 q96; replace p96 := eq_true p96; replace q96 := eq_true q96; obtain ⟨hy104_, hz104_⟩ := Kd.R_celln 0 HO_15.out (x99_4 : Int) (of_decide_eq_true (by first | (with_reducible assumption) | assumption)) (of_decide_eq_true (by first | (with_reducible assumption) | assumption)); have HP104 := Kd.R_putg HO_15.out (x99_4 : Int) t251) | ((with_reducible refine gate_store (t := 3) (p := 147) rfl ?_); refine store_event (t := 3) (p := 147) (v := ?vo_w105) (w1 := (w103.setCell ⟨go96, (x99_4 : Int).toNat, none⟩ (.int .i64 t251))) ?hg ?ho ?hn ?hr ?_; (case ho => rfl); (case hg => rfl); (case hn => rfl); (case hr => first | (go_simp; done) | (go_simp; rfl)); intro w105 hw; have hg : w103.grownBy w105 (some go96) := (by rw [hw]; exact HP104.2); have hp_ : Kd.R (Kd.int .i64) 3 w105 w.heap.size (fun k_ => some k_ ≠ (u13 : Value).ownBlock ∧ some k_ ≠ (.slice Ao102 x17_5.length co102 : Value).ownBlock) (.slice (some ⟨go96, 0, none⟩) x15_4.length co68) y252 := (by rw [hw, Ny252.out]; exact HP104.1); clear HP104; have n0_ := Aside0.mk (Kd.S_over' (v := (.slice (some ⟨go96, 0, none⟩) x15_4.length co68)) (by (with_reducible repeat (first | apply Kd.S_alloc | apply Kd.S_drewN | apply Kd.S_drew)); exact HO_10.out) (Kd.R_typed HO_15.out) (by decide) hg); have n1_ := Aside0.mk (Kd.R_after (v := (.slice (some ⟨go96, 0, none⟩) x15_4.length co68)) (v1 := (.slice (some ⟨go96, 0, none⟩) x15_4.length co68)) (ok := (fun k_ => some k_ ≠ (.slice Ao102 x17_5.length co102 : Value).ownBlock)) (by (with_reducible repeat (first | apply Kd.R_alloc | apply Kd.R_drewN | apply Kd.R_drew)); exact Kd.R_mono HO_13.out (fun _ hk => ⟨hk.2, hk.1⟩)) hg (.inl rfl)); have n2_ := Aside0.mk (hp_); have n3_ := Aside0.mk (Kd.R_after (v := (.slice (some ⟨go96, 0, none⟩) x15_4.length co68)) (v1 := (.slice (some ⟨go96, 0, none⟩) x15_4.length co68)) (ok := (fun k_ => some k_ ≠ (u13 : Value).ownBlock)) (by (with_reducible repeat (first | apply Kd.R_alloc | apply Kd.R_drewN | apply Kd.R_drew)); exact HO_17.out) hg (.inl rfl)); have n4_ := Aside0.mk (blk_grown (g := gb223) (o := .cells #[.int .i64 a0_0, .int .i64 a0_1, .int .i64 a0_2, .int .i64 a0_3, .int .i64 a0_4, .int .i64 a0_5, .int .i64 a0_6, .int .i64 a0_7, .int .i64 a0_8, .int .i64 a0_9, .int .i64 a0_10, .int .i64 a0_11] 23 (0, 0)) (by (with_reducible repeat (first | refine blk_drewN ?_ _ | refine blk_drew ?_ | refine blk_alloc ?_ _)); exact BK223.out) hg (Kd.R_ne HO_15.out BK223.out (by decide))); have n5_ := Aside0.mk ((by rw [hw]; exact below_set (HB.out) GB96.out : Below w.heap.size w w105)); clear HO_10; clear HO_13; clear HO_15; clear HO_17; clear BK223; clear HB; have HO_10 := n0_; have HO_13 := n1_; have HO_15 := n2_; have HO_17 := n3_; have BK223 := n4_; have HB := n5_; clear n0_ n1_ n2_ n3_ n4_ n5_; clear hg hw hp_; have p253 : 0 ≤ (x99_4 : Int) := of_decide_eq_true (by first | (with_reducible assumption) | assumption); have q253 : x99_4 < (l2.length : Int) := of_decide_eq_true (by first | (with_reducible assumption) | assumption); obtain ⟨ad253, e253, hx253_0⟩ := Kd.at_bool HR2.out x99_4 p253 q253; (try rw [← Nbq98.out] at hx253_0); cases e253; replace hx253_0 := (HB.out.cell (World.block_lt_of_cell? w _ hx253_0)).trans hx253_0; replace p253 := eq_true p253; replace q253 := eq_true q253; have p100 : 0 ≤ (x99_4 : Int) := of_decide_eq_true (by first | (with_reducible assumption) | assumption); have q100 : (x99_4 : Int) < ((x15_4.length : Int) : Int) := of_decide_eq_true (by first | (with_reducible assumption) | assumption); obtain ⟨hx100_0, hf100_0⟩ := Kd.R_celln 0 HO_15.out (x99_4 : Int) p100 q100; replace p100 := eq_true p100; replace q100 := eq_true q100; obtain ⟨hy106_, hz106_⟩ := Kd.R_celln 0 HO_15.out (x99_4 : Int) (of_decide_eq_true (by first | (with_reducible assumption) | assumption)) (of_decide_eq_true (by first | (with_reducible assumption) | assumption)); have HP106 := Kd.R_putg HO_15.out (x99_4 : Int) 0) | ((with_reducible refine gate_store (t := 3) (p := 154) rfl ?_); refine store_event (t := 3) (p := 154) (v := ?vo_w107) (w1 := (w105.setCell ⟨go96, (x99_4 : Int).toNat, none⟩ (.int .i64 0))) ?hg ?ho ?hn ?hr ?_; (case ho => rfl); (case hg => rfl); (case hn => rfl); (case hr => first | (go_simp; done) | (go_simp; rfl)); intro w107 hw; have hg : w105.grownBy w107 (some go96) := (by rw [hw]; exact HP106.2); have hp_ : Kd.R (Kd.int .i64) 3 w107 w.heap.size (fun k_ => some k_ ≠ (u13 : Value).ownBlock ∧ some k_ ≠ (.slice Ao102 x17_5.length co102 : Value).ownBlock) (.slice (some ⟨go96, 0, none⟩) x15_4.length co68) y254 := (by rw [hw, Ny254.out]; exact HP106.1); clear HP106; have n0_ := Aside0.mk (Kd.S_over' (v := (.slice (some ⟨go96, 0, none⟩) x15_4.length co68)) (by (with_reducible repeat (first | apply Kd.S_alloc | apply Kd.S_drewN | apply Kd.S_drew)); exact HO_10.out) (Kd.R_typed HO_15.out) (by decide) hg); have n1_ := Aside0.mk (Kd.R_after (v := (.slice (some ⟨go96, 0, none⟩) x15_4.length co68)) (v1 := (.slice (some ⟨go96, 0, none⟩) x15_4.length co68)) (ok := (fun k_ => some k_ ≠ (.slice Ao102 x17_5.length co102 : Value).ownBlock)) (by (with_reducible repeat (first | apply Kd.R_alloc | apply Kd.R_drewN | apply Kd.R_drew)); exact HO_13.out) hg (.inl rfl)); have n2_ := Aside0.mk (hp_); have n3_ := Aside0.mk (Kd.R_after (v := (.slice (some ⟨go96, 0, none⟩) x15_4.length co68)) (v1 := (.slice (some ⟨go96, 0, none⟩) x15_4.length co68)) (ok := (fun k_ => some k_ ≠ (u13 : Value).ownBlock)) (by (with_reducible repeat (first | apply Kd.R_alloc | apply Kd.R_drewN | apply Kd.R_drew)); exact HO_17.out) hg (.inl rfl)); have n4_ := Aside0.mk (blk_grown (g := gb223) (o := .cells #[.int .i64 a0_0, .int .i64 a0_1, .int .i64 a0_2, .int .i64 a0_3, .int .i64 a0_4, .int .i64 a0_5, .int .i64 a0_6, .int .i64 a0_7, .int .i64 a0_8, .int .i64 a0_9, .int .i64 a0_10, .int .i64 a0_11] 23 (0, 0)) (by (with_reducible repeat (first | refine blk_drewN ?_ _ | refine blk_drew ?_ | refine blk_alloc ?_ _)); exact BK223.out) hg (Kd.R_ne HO_15.out BK223.out (by decide))); have n5_ := Aside0.mk ((by rw [hw]; exact below_set (HB.out) GB96.out : Below w.heap.size w w107)); clear HO_10; clear HO_13; clear HO_15; clear HO_17; clear BK223; clear HB; have HO_10 := n0_; have HO_13 := n1_; have HO_15 := n2_; have HO_17 := n3_; have BK223 := n4_; have HB := n5_; clear n0_ n1_ n2_ n3_ n4_ n5_; clear hg hw hp_))
                                                    (try simp only [← hl15_4])
                                                    go_roundg k5
                                                    case measure => have := HJ6.out; have := HK2.out; have := HK3.out; have := HK4.out; have := HK5.out; omega
                                                    case rel => exact ⟨(y254), (wrap64 (x99_4 + 1)), (by first | rfl | (simp; done) | (simp [*]; done)), H', ⟨by have := HJ6.out; have := HK2.out; have := HK3.out; have := HK4.out; have := HK5.out; omega⟩, ⟨by (try simp only [hl10_2]); (try simp only [hl15_4]); (with_reducible repeat (first | apply Kd.S_alloc | apply Kd.S_drewN | apply Kd.S_drew)); exact HO_10.out⟩, ⟨by (try simp only [hl10_2]); (try simp only [hl15_4]); (with_reducible repeat (first | apply Kd.R_alloc | apply Kd.R_drewN | apply Kd.R_drew)); exact Kd.R_mono HO_13.out (fun _ hk => hk.2)⟩, ⟨by (try simp only [hl10_2]); (try simp only [hl15_4]); (with_reducible repeat (first | apply Kd.R_alloc | apply Kd.R_drewN | apply Kd.R_drew)); exact Kd.R_mono HO_15.out (fun _ hk => hk.1)⟩, ⟨by (try simp only [hl10_2]); (try simp only [hl15_4]); (with_reducible repeat (first | refine blk_drewN ?_ _ | refine blk_drew ?_ | refine blk_alloc ?_ _)); exact BK223.out⟩, ⟨by repeat (first | (with_reducible first | exact HB.out | apply below_alloc | apply pw_below_drewN | apply below_drew1 | refine below_set ?_ GE223.out) | exact HB.out)⟩⟩
                                                  · replace c99 := Bool.eq_false_iff.mpr c99
                                                    subst c99
                                                    have H1 : (clepsydralaw15_RouteSettles.l3 k5 l2 (l1.length : Int) x10_2 x13_3 x14_3 y252 (y248.length : Int) (wrap64 (x99_4 + 1)) a0_0 a0_1 a0_2 a0_3 a0_4 a0_5 a0_6 a0_7 a0_8 a0_9 a0_10 a0_11) = some r := by rw [if_neg (show ¬ (false = true) by decide)] at H; exact H
                                                    clear H
                                                    have H := H1
                                                    clear H1
                                                    have H' := Aside0.mk H
                                                    clear H
                                                    have hcz108_0 : wr.cell? ⟨gb223, 0, none⟩ = some (.int .i64 a0_0) := (blk_cell BK223.out 0).trans rfl
                                                    have hcz108_1 : wr.cell? ⟨gb223, 1, none⟩ = some (.int .i64 a0_1) := (blk_cell BK223.out 1).trans rfl
                                                    have hcz108_2 : wr.cell? ⟨gb223, 2, none⟩ = some (.int .i64 a0_2) := (blk_cell BK223.out 2).trans rfl
                                                    have hcz108_3 : wr.cell? ⟨gb223, 3, none⟩ = some (.int .i64 a0_3) := (blk_cell BK223.out 3).trans rfl
                                                    have hcz108_4 : wr.cell? ⟨gb223, 4, none⟩ = some (.int .i64 a0_4) := (blk_cell BK223.out 4).trans rfl
                                                    have hcz108_5 : wr.cell? ⟨gb223, 5, none⟩ = some (.int .i64 a0_5) := (blk_cell BK223.out 5).trans rfl
                                                    have hcz108_6 : wr.cell? ⟨gb223, 6, none⟩ = some (.int .i64 a0_6) := (blk_cell BK223.out 6).trans rfl
                                                    have hcz108_7 : wr.cell? ⟨gb223, 7, none⟩ = some (.int .i64 a0_7) := (blk_cell BK223.out 7).trans rfl
                                                    have hcz108_8 : wr.cell? ⟨gb223, 8, none⟩ = some (.int .i64 a0_8) := (blk_cell BK223.out 8).trans rfl
                                                    have hcz108_9 : wr.cell? ⟨gb223, 9, none⟩ = some (.int .i64 a0_9) := (blk_cell BK223.out 9).trans rfl
                                                    have hcz108_10 : wr.cell? ⟨gb223, 10, none⟩ = some (.int .i64 a0_10) := (blk_cell BK223.out 10).trans rfl
                                                    have hcz108_11 : wr.cell? ⟨gb223, 11, none⟩ = some (.int .i64 a0_11) := (blk_cell BK223.out 11).trans rfl
                                                    have hfz108_0 := blk_frozen BK223.out 0
                                                    have hfz108_1 := blk_frozen BK223.out 1
                                                    have hfz108_2 := blk_frozen BK223.out 2
                                                    have hfz108_3 := blk_frozen BK223.out 3
                                                    have hfz108_4 := blk_frozen BK223.out 4
                                                    have hfz108_5 := blk_frozen BK223.out 5
                                                    have hfz108_6 := blk_frozen BK223.out 6
                                                    have hfz108_7 := blk_frozen BK223.out 7
                                                    have hfz108_8 := blk_frozen BK223.out 8
                                                    have hfz108_9 := blk_frozen BK223.out 9
                                                    have hfz108_10 := blk_frozen BK223.out 10
                                                    have hfz108_11 := blk_frozen BK223.out 11
                                                    obtain ⟨Ao109, co109, eo109⟩ := Kd.R_slice HO_17.out
                                                    subst eo109
                                                    go_wp2_with (first | ((with_reducible refine gate_callee (f := 14) rfl ?_); refine goesL_ (some 146) rfl rfl Try.func14 (by kernel_rfl) rfl #[.agg #[.int .i64 a0_0, .int .i64 a0_1, .int .i64 a0_2, .int .i64 a0_3, .int .i64 a0_4, .int .i64 a0_5, .int .i64 a0_6, .int .i64 a0_7, .int .i64 a0_8, .int .i64 a0_9, .int .i64 a0_10, .int .i64 a0_11], .slice Ao109 x17_5.length co109] rfl (by (try simp only [List.map_toArray, List.map_cons, List.map_nil]); first | done | rfl | (simp only [List.length_drop, List.length_take]; rfl)) ?_; (with_reducible refine (route_Next.calls k5 a0_0 a0_1 a0_2 a0_3 a0_4 a0_5 a0_6 a0_7 a0_8 a0_9 a0_10 a0_11 _ _ x17_5 t251 _ ?side1 ?side2 A93.out).mono ?_); (case side1 => repeat (first | exact (Kd.R_reads' HO_17.out).2.2 | (with_reducible refine Kd.C_alloc ?_ _) | (with_reducible refine Kd.C_drewN ?_ _) | (with_reducible refine Kd.C_drew ?_))); (case side2 => exact (Kd.R_reads' HO_17.out).2.1); rintro e w110 ⟨rfl, hb⟩; refine ⟨_, rfl, ?_⟩; have n0_ := Aside0.mk (Kd.S_below (by (with_reducible repeat (first | apply Kd.S_alloc | apply Kd.S_drewN | apply Kd.S_drew)); exact HO_10.out) hb); have n1_ := Aside0.mk (Kd.R_below (by (with_reducible repeat (first | apply Kd.R_alloc | apply Kd.R_drewN | apply Kd.R_drew)); exact HO_13.out) hb); have n2_ := Aside0.mk (Kd.R_below (by (with_reducible repeat (first | apply Kd.R_alloc | apply Kd.R_drewN | apply Kd.R_drew)); exact HO_15.out) hb); have n3_ := Aside0.mk (Kd.R_below (by (with_reducible repeat (first | apply Kd.R_alloc | apply Kd.R_drewN | apply Kd.R_drew)); exact HO_17.out) hb); have n4_ := Aside0.mk (blk_below (g := gb223) (o := .cells #[.int .i64 a0_0, .int .i64 a0_1, .int .i64 a0_2, .int .i64 a0_3, .int .i64 a0_4, .int .i64 a0_5, .int .i64 a0_6, .int .i64 a0_7, .int .i64 a0_8, .int .i64 a0_9, .int .i64 a0_10, .int .i64 a0_11] 23 (0, 0)) (by (with_reducible repeat (first | refine blk_drewN ?_ _ | refine blk_drew ?_ | refine blk_alloc ?_ _)); exact BK223.out) hb); have n5_ := Aside0.mk (below_step (by repeat (first | (with_reducible first | exact HB.out | apply below_alloc | apply pw_below_drewN | apply below_drew1 | refine below_set ?_ GE223.out) | exact HB.out)) hb); clear HO_10; clear HO_13; clear HO_15; clear HO_17; clear BK223; clear HB; have HO_10 := n0_; have HO_13 := n1_; have HO_15 := n2_; have HO_17 := n3_; have BK223 := n4_; have HB := n5_; clear n0_ n1_ n2_ n3_ n4_ n5_; (try clear hb); (try clear hb2); (try clear hk); (try clear hi); have p96 : 0 ≤ (x99_4 : Int) := of_decide_eq_true (by first | (with_reducible assumption) | assumption); have q96 : (x99_4 : Int) < ((x15_4.length : Int) : Int) := of_decide_eq_true (by first | (with_reducible assumption) | assumption); obtain ⟨go96, co96, eo96, gb96, gl96, cl96, HG96⟩ := Kd.R_form HO_15.out (by omega); (first | cases eo96 | (injection eo96 with ea_ en_ ec_; (first | subst ea_ | (injection ea_ with ea_; subst ea_)); subst ec_; clear en_)); have GB96 := Aside0.mk gb96; have GG96 := Aside0.mk HG96; clear gb96 gl96 HG96; obtain ⟨hx96_0, hf96_0⟩ := Kd.R_celln 0 HO_15.out (x99_4 : Int) p96 q96; replace p96 := eq_true p96; replace q96 := eq_true q96; obtain ⟨hy111_, hz111_⟩ := Kd.R_celln 0 HO_15.out (x99_4 : Int) (of_decide_eq_true (by first | (with_reducible assumption) | assumption)) (of_decide_eq_true (by first | (with_reducible assumption) | assumption)); have HP111 := Kd.R_putg HO_15.out (x99_4 : Int) t251) | ((with_reducible refine gate_store (t := 3) (p := 147) rfl ?_); refine store_event (t := 3) (p := 147) (v := ?vo_w112) (w1 := (w110.setCell ⟨go96, (x99_4 : Int).toNat, none⟩ (.int .i64 t251))) ?hg ?ho ?hn ?hr ?_; (case ho => rfl); (case hg => rfl); (case hn => rfl); (case hr => first | (go_simp; done) | (go_simp; rfl)); intro w112 hw; have hg : w110.grownBy w112 (some go96) := (by rw [hw]; exact HP111.2); have hp_ : Kd.R (Kd.int .i64) 3 w112 w.heap.size (fun k_ => some k_ ≠ (u13 : Value).ownBlock ∧ some k_ ≠ (.slice Ao109 x17_5.length co109 : Value).ownBlock) (.slice (some ⟨go96, 0, none⟩) x15_4.length co68) y252 := (by rw [hw, Ny252.out]; exact HP111.1); clear HP111; have n0_ := Aside0.mk (Kd.S_over' (v := (.slice (some ⟨go96, 0, none⟩) x15_4.length co68)) (by (with_reducible repeat (first | apply Kd.S_alloc | apply Kd.S_drewN | apply Kd.S_drew)); exact HO_10.out) (Kd.R_typed HO_15.out) (by decide) hg); have n1_ := Aside0.mk (Kd.R_after (v := (.slice (some ⟨go96, 0, none⟩) x15_4.length co68)) (v1 := (.slice (some ⟨go96, 0, none⟩) x15_4.length co68)) (ok := (fun k_ => some k_ ≠ (.slice Ao109 x17_5.length co109 : Value).ownBlock)) (by (with_reducible repeat (first | apply Kd.R_alloc | apply Kd.R_drewN | apply Kd.R_drew)); exact Kd.R_mono HO_13.out (fun _ hk => ⟨hk.2, hk.1⟩)) hg (.inl rfl)); have n2_ := Aside0.mk (hp_); have n3_ := Aside0.mk (Kd.R_after (v := (.slice (some ⟨go96, 0, none⟩) x15_4.length co68)) (v1 := (.slice (some ⟨go96, 0, none⟩) x15_4.length co68)) (ok := (fun k_ => some k_ ≠ (u13 : Value).ownBlock)) (by (with_reducible repeat (first | apply Kd.R_alloc | apply Kd.R_drewN | apply Kd.R_drew)); exact HO_17.out) hg (.inl rfl)); have n4_ := Aside0.mk (blk_grown (g := gb223) (o := .cells #[.int .i64 a0_0, .int .i64 a0_1, .int .i64 a0_2, .int .i64 a0_3, .int .i64 a0_4, .int .i64 a0_5, .int .i64 a0_6, .int .i64 a0_7, .int .i64 a0_8, .int .i64 a0_9, .int .i64 a0_10, .int .i64 a0_11] 23 (0, 0)) (by (with_reducible repeat (first | refine blk_drewN ?_ _ | refine blk_drew ?_ | refine blk_alloc ?_ _)); exact BK223.out) hg (Kd.R_ne HO_15.out BK223.out (by decide))); have n5_ := Aside0.mk ((by rw [hw]; exact below_set (HB.out) GB96.out : Below w.heap.size w w112)); clear HO_10; clear HO_13; clear HO_15; clear HO_17; clear BK223; clear HB; have HO_10 := n0_; have HO_13 := n1_; have HO_15 := n2_; have HO_17 := n3_; have BK223 := n4_; have HB := n5_; clear n0_ n1_ n2_ n3_ n4_ n5_; clear hg hw hp_; have p253 : 0 ≤ (x99_4 : Int) := of_decide_eq_true (by first | (with_reducible assumption) | assumption); have q253 : x99_4 < (l2.length : Int) := of_decide_eq_true (by first | (with_reducible assumption) | assumption); obtain ⟨ad253, e253, hx253_0⟩ := Kd.at_bool HR2.out x99_4 p253 q253; (try rw [← Nbq98.out] at hx253_0); cases e253; replace hx253_0 := (HB.out.cell (World.block_lt_of_cell? w _ hx253_0)).trans hx253_0; replace p253 := eq_true p253; replace q253 := eq_true q253))
                                                    (try simp only [← hl15_4])
                                                    go_roundg k5
                                                    case measure => have := HJ6.out; have := HK2.out; have := HK3.out; have := HK4.out; have := HK5.out; omega
                                                    case rel => exact ⟨(y252), (wrap64 (x99_4 + 1)), (by first | rfl | (simp; done) | (simp [*]; done)), H', ⟨by have := HJ6.out; have := HK2.out; have := HK3.out; have := HK4.out; have := HK5.out; omega⟩, ⟨by (try simp only [hl10_2]); (try simp only [hl15_4]); (with_reducible repeat (first | apply Kd.S_alloc | apply Kd.S_drewN | apply Kd.S_drew)); exact HO_10.out⟩, ⟨by (try simp only [hl10_2]); (try simp only [hl15_4]); (with_reducible repeat (first | apply Kd.R_alloc | apply Kd.R_drewN | apply Kd.R_drew)); exact Kd.R_mono HO_13.out (fun _ hk => hk.2)⟩, ⟨by (try simp only [hl10_2]); (try simp only [hl15_4]); (with_reducible repeat (first | apply Kd.R_alloc | apply Kd.R_drewN | apply Kd.R_drew)); exact Kd.R_mono HO_15.out (fun _ hk => hk.1)⟩, ⟨by (try simp only [hl10_2]); (try simp only [hl15_4]); (with_reducible repeat (first | refine blk_drewN ?_ _ | refine blk_drew ?_ | refine blk_alloc ?_ _)); exact BK223.out⟩, ⟨by repeat (first | (with_reducible first | exact HB.out | apply below_alloc | apply pw_below_drewN | apply below_drew1 | refine below_set ?_ GE223.out) | exact HB.out)⟩⟩
                                                · rw [if_neg c97] at H
                                                  exact absurd H (by simp)
                                              · rw [if_neg c95] at H
                                                exact absurd H (by simp)
                                            · rw [if_neg c94] at H
                                              exact absurd H (by simp)
                                    · rw [if_neg c69] at H
                                      have c69b0 : decide (x99_4 < (y248.length : Int)) = false := decide_eq_false c69
                                      (try have c69b9 : decide (x99_4 < (x15_4.length : Int)) = false := by rw [← hl15_4]; exact c69b0)
                                      clear c69
                                      have H' := Aside0.mk H
                                      clear H
                                      go_wp2
                                      (try simp only [← hl15_4])
                                      go_roundg k4
                                      case measure => have := HJ6.out; have := HK2.out; have := HK3.out; have := HK4.out; omega
                                      case rel => exact ⟨(x15_4), (wrap64 (x14_3 + 1)), (by first | rfl | (simp; done) | (simp [*]; done)), H', ⟨by have := HJ6.out; have := HK2.out; have := HK3.out; have := HK4.out; omega⟩, ⟨by (try simp only [hl10_2]); (try simp only [hl15_4]); (with_reducible repeat (first | apply Kd.S_alloc | apply Kd.S_drewN | apply Kd.S_drew)); exact HO_10.out⟩, ⟨by (try simp only [hl10_2]); (try simp only [hl15_4]); (with_reducible repeat (first | apply Kd.R_alloc | apply Kd.R_drewN | apply Kd.R_drew)); exact Kd.R_mono HO_15.out (fun _ hk => trivial)⟩, ⟨by (try simp only [hl10_2]); (try simp only [hl15_4]); (with_reducible repeat (first | refine blk_drewN ?_ _ | refine blk_drew ?_ | refine blk_alloc ?_ _)); exact BK223.out⟩, ⟨by repeat (first | (with_reducible first | exact HB.out | apply below_alloc | apply pw_below_drewN | apply below_drew1 | refine below_set ?_ GE223.out) | exact HB.out)⟩⟩
                              · rw [if_neg c64] at H
                                exact absurd H (by simp)
                            · rw [if_neg c63] at H
                              exact absurd H (by simp)
                          · rw [if_neg c62] at H
                            have c62b0 : decide (x14_3 < (wrap64 (a0_2 + 1))) = false := decide_eq_false c62
                            clear c62
                            replace H := Option.bind_eq_some_iff.mp H
                            obtain ⟨t267, A1130, H⟩ := H
                            replace H : (clepsydralaw15_RouteSettles.l5 k3 x13_3 t267 (t267.length : Int) 0 a0_0 a0_1 a0_2 a0_3 a0_4 a0_5 a0_6 a0_7 a0_8 a0_9 a0_10 a0_11) = some r := H
                            have A113 := Aside0.mk A1130
                            clear A1130
                            have H' := Aside0.mk H
                            clear H
                            have hcz114_0 : wr.cell? ⟨gb223, 0, none⟩ = some (.int .i64 a0_0) := (blk_cell BK223.out 0).trans rfl
                            have hcz114_1 : wr.cell? ⟨gb223, 1, none⟩ = some (.int .i64 a0_1) := (blk_cell BK223.out 1).trans rfl
                            have hcz114_2 : wr.cell? ⟨gb223, 2, none⟩ = some (.int .i64 a0_2) := (blk_cell BK223.out 2).trans rfl
                            have hcz114_3 : wr.cell? ⟨gb223, 3, none⟩ = some (.int .i64 a0_3) := (blk_cell BK223.out 3).trans rfl
                            have hcz114_4 : wr.cell? ⟨gb223, 4, none⟩ = some (.int .i64 a0_4) := (blk_cell BK223.out 4).trans rfl
                            have hcz114_5 : wr.cell? ⟨gb223, 5, none⟩ = some (.int .i64 a0_5) := (blk_cell BK223.out 5).trans rfl
                            have hcz114_6 : wr.cell? ⟨gb223, 6, none⟩ = some (.int .i64 a0_6) := (blk_cell BK223.out 6).trans rfl
                            have hcz114_7 : wr.cell? ⟨gb223, 7, none⟩ = some (.int .i64 a0_7) := (blk_cell BK223.out 7).trans rfl
                            have hcz114_8 : wr.cell? ⟨gb223, 8, none⟩ = some (.int .i64 a0_8) := (blk_cell BK223.out 8).trans rfl
                            have hcz114_9 : wr.cell? ⟨gb223, 9, none⟩ = some (.int .i64 a0_9) := (blk_cell BK223.out 9).trans rfl
                            have hcz114_10 : wr.cell? ⟨gb223, 10, none⟩ = some (.int .i64 a0_10) := (blk_cell BK223.out 10).trans rfl
                            have hcz114_11 : wr.cell? ⟨gb223, 11, none⟩ = some (.int .i64 a0_11) := (blk_cell BK223.out 11).trans rfl
                            have hfz114_0 := blk_frozen BK223.out 0
                            have hfz114_1 := blk_frozen BK223.out 1
                            have hfz114_2 := blk_frozen BK223.out 2
                            have hfz114_3 := blk_frozen BK223.out 3
                            have hfz114_4 := blk_frozen BK223.out 4
                            have hfz114_5 := blk_frozen BK223.out 5
                            have hfz114_6 := blk_frozen BK223.out 6
                            have hfz114_7 := blk_frozen BK223.out 7
                            have hfz114_8 := blk_frozen BK223.out 8
                            have hfz114_9 := blk_frozen BK223.out 9
                            have hfz114_10 := blk_frozen BK223.out 10
                            have hfz114_11 := blk_frozen BK223.out 11
                            go_wp2_with (first | ((with_reducible refine gate_callee (f := 22) rfl ?_); refine goesL_ (some 159) rfl rfl Try.func22 (by kernel_rfl) rfl #[.slice A2 l2.length c2, .slice Ao27 x10_2.length co27] rfl (by (try simp only [List.map_toArray, List.map_cons, List.map_nil]); first | done | rfl | (simp only [List.length_drop, List.length_take]; rfl)) ?_; (with_reducible refine (clepsydraref15_Shortest.calls k3 _ _ l2 _ _ x10_2 t267 _ ?side1 ?side2 ?side3 ?side4 A113.out).mono ?_); (case side1 => repeat (first | exact (Kd.C_below HR2.out HB.out) | (with_reducible refine Kd.C_alloc ?_ _) | (with_reducible refine Kd.C_drewN ?_ _) | (with_reducible refine Kd.C_drew ?_))); (case side2 => exact HC2.out); (case side3 => repeat (first | exact (Kd.S_reads' HO_10.out).2.2 | (with_reducible refine Kd.C_alloc ?_ _) | (with_reducible refine Kd.C_drewN ?_ _) | (with_reducible refine Kd.C_drew ?_))); (case side4 => exact (Kd.S_reads' HO_10.out).2.1); rintro e w115 ⟨v268, rfl, ho0, hb⟩; refine ⟨_, rfl, ?_⟩; have n0_ := Aside0.mk (Kd.S_below (by (with_reducible repeat (first | apply Kd.S_alloc | apply Kd.S_drewN | apply Kd.S_drew)); exact HO_10.out) hb); have n1_ := Aside0.mk (Kd.R_elder' (by (with_reducible repeat (first | apply Kd.R_alloc | apply Kd.R_drewN | apply Kd.R_drew)); exact HO_13.out) (Kd.R_base ho0) hb); have n2_ := Aside0.mk (Kd.R_lower (Kd.R_new' ho0 (Kd.R_lt (by (with_reducible repeat (first | apply Kd.R_alloc | apply Kd.R_drewN | apply Kd.R_drew)); exact HO_13.out))) (below_size (by repeat (first | (with_reducible first | exact HB.out | apply below_alloc | apply pw_below_drewN | apply below_drew1 | refine below_set ?_ GE223.out) | exact HB.out)))); have n3_ := Aside0.mk (blk_below (g := gb223) (o := .cells #[.int .i64 a0_0, .int .i64 a0_1, .int .i64 a0_2, .int .i64 a0_3, .int .i64 a0_4, .int .i64 a0_5, .int .i64 a0_6, .int .i64 a0_7, .int .i64 a0_8, .int .i64 a0_9, .int .i64 a0_10, .int .i64 a0_11] 23 (0, 0)) (by (with_reducible repeat (first | refine blk_drewN ?_ _ | refine blk_drew ?_ | refine blk_alloc ?_ _)); exact BK223.out) hb); have n4_ := Aside0.mk (below_step (by repeat (first | (with_reducible first | exact HB.out | apply below_alloc | apply pw_below_drewN | apply below_drew1 | refine below_set ?_ GE223.out) | exact HB.out)) hb); clear HO_10; clear HO_13; clear BK223; clear HB; have HO_10 := n0_; have HO_13 := n1_; have HO269 := n2_; have BK223 := n3_; have HB := n4_; clear n0_ n1_ n2_ n3_ n4_; (try clear hb); (try clear hb2); (try clear hk); (try clear hi); (try clear ho0); obtain ⟨Ao116, co116, eo116⟩ := Kd.R_slice HO269.out; subst eo116))
                            go_loopg [161] k3 (fun kq v161 w' => ∃ (x161_4 : Int), v161 = .int .i64 x161_4 ∧ Aside0 (clepsydralaw15_RouteSettles.l5 kq x13_3 t267 (t267.length : Int) x161_4 a0_0 a0_1 a0_2 a0_3 a0_4 a0_5 a0_6 a0_7 a0_8 a0_9 a0_10 a0_11 = some r) ∧ Aside0 (kq ≤ k3) ∧ Aside0 (Kd.R (Kd.int .i64) 3 w' w.heap.size (fun k_ => some k_ ≠ ((.slice Ao116 t267.length co116) : Value).ownBlock) u13 x13_3) ∧ Aside0 (Kd.R (Kd.int .i64) 3 w' w.heap.size (fun k_ => some k_ ≠ (u13 : Value).ownBlock) (.slice Ao116 t267.length co116) t267) ∧ Aside0 (w'.heap[gb223]? = some (.cells #[.int .i64 a0_0, .int .i64 a0_1, .int .i64 a0_2, .int .i64 a0_3, .int .i64 a0_4, .int .i64 a0_5, .int .i64 a0_6, .int .i64 a0_7, .int .i64 a0_8, .int .i64 a0_9, .int .i64 a0_10, .int .i64 a0_11] 23 (0, 0))) ∧ Aside0 (Below w.heap.size w w'))
                            case atStart => exact ⟨(0), (by first | rfl | (simp; done) | (simp [*]; done)), H', ⟨Nat.le_refl _⟩, ⟨by (try simp only [hl10_2]); (with_reducible repeat (first | apply Kd.R_alloc | apply Kd.R_drewN | apply Kd.R_drew)); exact Kd.R_mono HO_13.out (fun _ hk => hk.2)⟩, ⟨by (try simp only [hl10_2]); (with_reducible repeat (first | apply Kd.R_alloc | apply Kd.R_drewN | apply Kd.R_drew)); exact Kd.R_mono HO269.out (fun _ hk => hk.2)⟩, ⟨by (try simp only [hl10_2]); (with_reducible repeat (first | refine blk_drewN ?_ _ | refine blk_drew ?_ | refine blk_alloc ?_ _)); exact BK223.out⟩, ⟨by repeat (first | (with_reducible first | exact HB.out | apply below_alloc | apply pw_below_drewN | apply below_drew1 | refine below_set ?_ GE223.out) | exact HB.out)⟩⟩
                            case round =>
                              clear H'
                              (try clear c1); (try clear p1); (try clear q1); (try clear hx1); (try clear c2); (try clear p2); (try clear q2); (try clear hx2); (try clear c3); (try clear p3); (try clear q3); (try clear hx3); (try clear c4); (try clear p4); (try clear q4); (try clear hx4); (try clear hf4); (try clear c5); (try clear p5); (try clear q5); (try clear hx5); (try clear hf5); (try clear c6); (try clear p6); (try clear c7); (try clear q7); (try clear c8); (try clear q8); (try clear c9); (try clear p9); (try clear q9); (try clear hx9); (try clear hf9); (try clear p10); (try clear q10); (try clear hx10); (try clear hf10); (try clear c14); (try clear c22); (try clear c23); (try clear p23); (try clear q23); (try clear hx23); (try clear c25); (try clear p25); (try clear q25); (try clear hx25); (try clear c26); (try clear p26); (try clear q26); (try clear hx26); (try clear c28); (try clear c28b0); (try clear c29); (try clear c30); (try clear c31); (try clear c32); (try clear p33); (try clear q33); (try clear hx33); (try clear hx36); (try clear c38); (try clear c38b0); (try clear c39); (try clear c39b0); (try clear c40); (try clear c40b0); (try clear c41); (try clear c41b0); (try clear c41b1); (try clear c42); (try clear c42b0); (try clear c43); (try clear c43b0); (try clear p44); (try clear q44); (try clear hx44); (try clear hf44); (try clear c46); (try clear q46); (try clear c48); (try clear c48b0); (try clear c50); (try clear c50b0); (try clear c50b1); (try clear c52); (try clear c52b0); (try clear c53); (try clear c53b0); (try clear p54); (try clear q54); (try clear hx54); (try clear hf54); (try clear c56); (try clear q56); (try clear c58); (try clear c62); (try clear c62b0); (try clear c63); (try clear c63b0); (try clear c63b1); (try clear c64); (try clear c64b0); (try clear c64b1); (try clear p64); (try clear c69); (try clear c69b0); (try clear c70); (try clear c70b0); (try clear c72); (try clear c72b0); (try clear c73); (try clear c73b0); (try clear c74); (try clear c74b0); (try clear c75); (try clear c75b0); (try clear q76); (try clear c77); (try clear c78); (try clear c78b0); (try clear c79); (try clear c79b0); (try clear c80); (try clear c81); (try clear c83); (try clear c83b0); (try clear c84); (try clear c84b0); (try clear c85); (try clear c85b0); (try clear c86); (try clear c86b0); (try clear q87); (try clear c88); (try clear c89); (try clear c89b0); (try clear c90); (try clear c94); (try clear c94b0); (try clear c95); (try clear c95b0); (try clear p96); (try clear q96); (try clear hx96); (try clear hf96); (try clear c97); (try clear c97b0); (try clear q98); (try clear c99); (try clear p100); (try clear q100); (try clear hx100); (try clear hf100); (try clear hcz101_0); (try clear hcz101_1); (try clear hcz101_10); (try clear hcz101_11); (try clear hcz101_2); (try clear hcz101_3); (try clear hcz101_4); (try clear hcz101_5); (try clear hcz101_6); (try clear hcz101_7); (try clear hcz101_8); (try clear hcz101_9); (try clear hcz108_0); (try clear hcz108_1); (try clear hcz108_10); (try clear hcz108_11); (try clear hcz108_2); (try clear hcz108_3); (try clear hcz108_4); (try clear hcz108_5); (try clear hcz108_6); (try clear hcz108_7); (try clear hcz108_8); (try clear hcz108_9); (try clear hcz114_0); (try clear hcz114_1); (try clear hcz114_10); (try clear hcz114_11); (try clear hcz114_2); (try clear hcz114_3); (try clear hcz114_4); (try clear hcz114_5); (try clear hcz114_6); (try clear hcz114_7); (try clear hcz114_8); (try clear hcz114_9); (try clear hcz65_0); (try clear hcz65_1); (try clear hcz65_10); (try clear hcz65_11); (try clear hcz65_2); (try clear hcz65_3); (try clear hcz65_4); (try clear hcz65_5); (try clear hcz65_6); (try clear hcz65_7); (try clear hcz65_8); (try clear hcz65_9); (try clear hfz101_0); (try clear hfz101_1); (try clear hfz101_10); (try clear hfz101_11); (try clear hfz101_2); (try clear hfz101_3); (try clear hfz101_4); (try clear hfz101_5); (try clear hfz101_6); (try clear hfz101_7); (try clear hfz101_8)
                              (try clear hfz101_9); (try clear hfz108_0); (try clear hfz108_1); (try clear hfz108_10); (try clear hfz108_11); (try clear hfz108_2); (try clear hfz108_3); (try clear hfz108_4); (try clear hfz108_5); (try clear hfz108_6); (try clear hfz108_7); (try clear hfz108_8); (try clear hfz108_9); (try clear hfz114_0); (try clear hfz114_1); (try clear hfz114_10); (try clear hfz114_11); (try clear hfz114_2); (try clear hfz114_3); (try clear hfz114_4); (try clear hfz114_5); (try clear hfz114_6); (try clear hfz114_7); (try clear hfz114_8); (try clear hfz114_9); (try clear hfz18_2); (try clear hfz18_3); (try clear hfz18_4); (try clear hfz18_5); (try clear hfz18_6); (try clear hfz18_7); (try clear hfz18_8); (try clear hfz18_9); (try clear hfz20_0); (try clear hfz20_1); (try clear hfz20_10); (try clear hfz20_11); (try clear hfz20_2); (try clear hfz20_3); (try clear hfz20_4); (try clear hfz20_5); (try clear hfz20_6); (try clear hfz20_7); (try clear hfz20_8); (try clear hfz20_9); (try clear hfz65_0); (try clear hfz65_1); (try clear hfz65_10); (try clear hfz65_11); (try clear hfz65_2); (try clear hfz65_3); (try clear hfz65_4); (try clear hfz65_5); (try clear hfz65_6); (try clear hfz65_7); (try clear hfz65_8); (try clear hfz65_9); (try clear hx100_0); (try clear hx233_0); (try clear hx234_0); (try clear hx238_0); (try clear hx253_0); (try clear hx255_0); (try clear hx256_0); (try clear hx257_0); (try clear hx261_0); (try clear hx262_0); (try clear hx263_0); (try clear hx33_0); (try clear hx36_0); (try clear hx44_0); (try clear hx54_0); (try clear hx96_0); (try clear p100); (try clear p2); (try clear p23); (try clear p233); (try clear p234); (try clear p238); (try clear p25); (try clear p253); (try clear p255); (try clear p256); (try clear p257); (try clear p261); (try clear p262); (try clear p263); (try clear p3); (try clear p33); (try clear p4); (try clear p44); (try clear p5); (try clear p54); (try clear p6); (try clear p64); (try clear p96); (try clear q100); (try clear q2); (try clear q23); (try clear q233); (try clear q234); (try clear q238); (try clear q25); (try clear q253); (try clear q255); (try clear q256); (try clear q257); (try clear q261); (try clear q262); (try clear q263); (try clear q3); (try clear q33); (try clear q4); (try clear q44); (try clear q46); (try clear q5); (try clear q54); (try clear q56); (try clear q7); (try clear q76); (try clear q96)
                              obtain ⟨x161_4, rfl, HA, HK4, HO_13, HO_159, BK223, HB⟩ := hrel
                              cases gk with
                              | zero => exact absurd HA.out (by simp [clepsydralaw15_RouteSettles.l5])
                              | succ k4 =>
                                have H := HA.out
                                clear HA
                                simp only [clepsydralaw15_RouteSettles.l5] at H
                                by_cases c117 : x161_4 < (t267.length : Int)
                                · rw [if_pos c117] at H
                                  have c117b0 : decide (x161_4 < (t267.length : Int)) = true := decide_eq_true c117
                                  clear c117
                                  by_cases c118 : 0 ≤ x161_4
                                  · rw [if_pos c118] at H
                                    have c118b0 : decide (0 ≤ x161_4) = true := decide_eq_true c118
                                    clear c118
                                    by_cases c119 : x161_4 < (t267.length : Int)
                                    · rw [if_pos c119] at H
                                      have c119b0 : decide (x161_4 < (t267.length : Int)) = true := decide_eq_true c119
                                      clear c119
                                      have HC120 := Aside0.mk H
                                      clear H
                                      have p270 : 0 ≤ (x161_4 : Int) := of_decide_eq_true (by first | (with_reducible assumption) | assumption)
                                      have q270 : x161_4 < (t267.length : Int) := of_decide_eq_true (by first | (with_reducible assumption) | assumption)
                                      obtain ⟨ad270, e270, hx270_0⟩ := Kd.at_int (Kd.R_reads' HO_159.out).2.2 x161_4 p270 q270
                                      cases e270
                                      replace p270 := eq_true p270
                                      replace q270 := eq_true q270
                                      go_upto_region 42 with (fail)
                                      go_cut [173] (fun v173 wc => ∃ (kq : Nat) (x173_119 : Bool), v173 = .bool x173_119 ∧ Aside0 (clepsydralaw15_RouteSettles.j8 kq x13_3 x161_4 (rd t267 x161_4) t267 (t267.length : Int) x161_4 x173_119 a0_0 a0_1 a0_2 a0_3 a0_4 a0_5 a0_6 a0_7 a0_8 a0_9 a0_10 a0_11 = some r) ∧ Aside0 (kq ≤ k4) ∧ Aside0 (Kd.R (Kd.int .i64) 3 wc w.heap.size (fun k_ => some k_ ≠ ((.slice (some ad270) t267.length co116) : Value).ownBlock) u13 x13_3) ∧ Aside0 (Kd.R (Kd.int .i64) 3 wc w.heap.size (fun k_ => some k_ ≠ (u13 : Value).ownBlock) (.slice (some ad270) t267.length co116) t267) ∧ Aside0 (wc.heap[gb223]? = some (.cells #[.int .i64 a0_0, .int .i64 a0_1, .int .i64 a0_2, .int .i64 a0_3, .int .i64 a0_4, .int .i64 a0_5, .int .i64 a0_6, .int .i64 a0_7, .int .i64 a0_8, .int .i64 a0_9, .int .i64 a0_10, .int .i64 a0_11] 23 (0, 0))) ∧ Aside0 (Below w.heap.size w wc))
                                      case first =>
                                        have H := HC120.out
                                        clear HC120
                                        by_cases c121 : (rd t267 x161_4) > a0_2
                                        · rw [if_pos c121] at H
                                          have c121b0 : decide (a0_2 < (rd t267 x161_4)) = true := decide_eq_true c121
                                          clear c121
                                          (first | rw [c121b0] | (simp only [i64_w, i32_w]; rw [c121b0]) | skip)
                                          have H' := Aside0.mk H
                                          clear H
                                          have hcz122_0 : wr.cell? ⟨gb223, 0, none⟩ = some (.int .i64 a0_0) := (blk_cell BK223.out 0).trans rfl
                                          have hcz122_1 : wr.cell? ⟨gb223, 1, none⟩ = some (.int .i64 a0_1) := (blk_cell BK223.out 1).trans rfl
                                          have hcz122_2 : wr.cell? ⟨gb223, 2, none⟩ = some (.int .i64 a0_2) := (blk_cell BK223.out 2).trans rfl
                                          have hcz122_3 : wr.cell? ⟨gb223, 3, none⟩ = some (.int .i64 a0_3) := (blk_cell BK223.out 3).trans rfl
                                          have hcz122_4 : wr.cell? ⟨gb223, 4, none⟩ = some (.int .i64 a0_4) := (blk_cell BK223.out 4).trans rfl
                                          have hcz122_5 : wr.cell? ⟨gb223, 5, none⟩ = some (.int .i64 a0_5) := (blk_cell BK223.out 5).trans rfl
                                          have hcz122_6 : wr.cell? ⟨gb223, 6, none⟩ = some (.int .i64 a0_6) := (blk_cell BK223.out 6).trans rfl
                                          have hcz122_7 : wr.cell? ⟨gb223, 7, none⟩ = some (.int .i64 a0_7) := (blk_cell BK223.out 7).trans rfl
                                          have hcz122_8 : wr.cell? ⟨gb223, 8, none⟩ = some (.int .i64 a0_8) := (blk_cell BK223.out 8).trans rfl
                                          have hcz122_9 : wr.cell? ⟨gb223, 9, none⟩ = some (.int .i64 a0_9) := (blk_cell BK223.out 9).trans rfl
                                          have hcz122_10 : wr.cell? ⟨gb223, 10, none⟩ = some (.int .i64 a0_10) := (blk_cell BK223.out 10).trans rfl
                                          have hcz122_11 : wr.cell? ⟨gb223, 11, none⟩ = some (.int .i64 a0_11) := (blk_cell BK223.out 11).trans rfl
                                          have hfz122_0 := blk_frozen BK223.out 0
                                          have hfz122_1 := blk_frozen BK223.out 1
                                          have hfz122_2 := blk_frozen BK223.out 2
                                          have hfz122_3 := blk_frozen BK223.out 3
                                          have hfz122_4 := blk_frozen BK223.out 4
                                          have hfz122_5 := blk_frozen BK223.out 5
                                          have hfz122_6 := blk_frozen BK223.out 6
                                          have hfz122_7 := blk_frozen BK223.out 7
                                          have hfz122_8 := blk_frozen BK223.out 8
                                          have hfz122_9 := blk_frozen BK223.out 9
                                          have hfz122_10 := blk_frozen BK223.out 10
                                          have hfz122_11 := blk_frozen BK223.out 11
                                          go_wp2
                                          go_meet
                                          case rel => exact ⟨_, (true), (by first | rfl | (simp; done) | (simp [*]; done)), H', ⟨by have := HJ6.out; have := HK2.out; have := HK3.out; have := HK4.out; first | omega | exact Nat.le_refl _⟩, ⟨by (try simp only [hl10_2]); (with_reducible repeat (first | apply Kd.R_alloc | apply Kd.R_drewN | apply Kd.R_drew)); exact HO_13.out⟩, ⟨by (try simp only [hl10_2]); (with_reducible repeat (first | apply Kd.R_alloc | apply Kd.R_drewN | apply Kd.R_drew)); exact HO_159.out⟩, ⟨by (try simp only [hl10_2]); (with_reducible repeat (first | refine blk_drewN ?_ _ | refine blk_drew ?_ | refine blk_alloc ?_ _)); exact BK223.out⟩, ⟨by repeat (first | (with_reducible first | exact HB.out | apply below_alloc | apply pw_below_drewN | apply below_drew1 | refine below_set ?_ GE223.out) | exact HB.out)⟩⟩
                                        · rw [if_neg c121] at H
                                          have c121b0 : decide (a0_2 < (rd t267 x161_4)) = false := decide_eq_false c121
                                          clear c121
                                          (first | rw [c121b0] | (simp only [i64_w, i32_w]; rw [c121b0]) | skip)
                                          have H' := Aside0.mk H
                                          clear H
                                          have hcz123_0 : wr.cell? ⟨gb223, 0, none⟩ = some (.int .i64 a0_0) := (blk_cell BK223.out 0).trans rfl
                                          have hcz123_1 : wr.cell? ⟨gb223, 1, none⟩ = some (.int .i64 a0_1) := (blk_cell BK223.out 1).trans rfl
                                          have hcz123_2 : wr.cell? ⟨gb223, 2, none⟩ = some (.int .i64 a0_2) := (blk_cell BK223.out 2).trans rfl
                                          have hcz123_3 : wr.cell? ⟨gb223, 3, none⟩ = some (.int .i64 a0_3) := (blk_cell BK223.out 3).trans rfl
                                          have hcz123_4 : wr.cell? ⟨gb223, 4, none⟩ = some (.int .i64 a0_4) := (blk_cell BK223.out 4).trans rfl
                                          have hcz123_5 : wr.cell? ⟨gb223, 5, none⟩ = some (.int .i64 a0_5) := (blk_cell BK223.out 5).trans rfl
                                          have hcz123_6 : wr.cell? ⟨gb223, 6, none⟩ = some (.int .i64 a0_6) := (blk_cell BK223.out 6).trans rfl
                                          have hcz123_7 : wr.cell? ⟨gb223, 7, none⟩ = some (.int .i64 a0_7) := (blk_cell BK223.out 7).trans rfl
                                          have hcz123_8 : wr.cell? ⟨gb223, 8, none⟩ = some (.int .i64 a0_8) := (blk_cell BK223.out 8).trans rfl
                                          have hcz123_9 : wr.cell? ⟨gb223, 9, none⟩ = some (.int .i64 a0_9) := (blk_cell BK223.out 9).trans rfl
                                          have hcz123_10 : wr.cell? ⟨gb223, 10, none⟩ = some (.int .i64 a0_10) := (blk_cell BK223.out 10).trans rfl
                                          have hcz123_11 : wr.cell? ⟨gb223, 11, none⟩ = some (.int .i64 a0_11) := (blk_cell BK223.out 11).trans rfl
                                          have hfz123_0 := blk_frozen BK223.out 0
                                          have hfz123_1 := blk_frozen BK223.out 1
                                          have hfz123_2 := blk_frozen BK223.out 2
                                          have hfz123_3 := blk_frozen BK223.out 3
                                          have hfz123_4 := blk_frozen BK223.out 4
                                          have hfz123_5 := blk_frozen BK223.out 5
                                          have hfz123_6 := blk_frozen BK223.out 6
                                          have hfz123_7 := blk_frozen BK223.out 7
                                          have hfz123_8 := blk_frozen BK223.out 8
                                          have hfz123_9 := blk_frozen BK223.out 9
                                          have hfz123_10 := blk_frozen BK223.out 10
                                          have hfz123_11 := blk_frozen BK223.out 11
                                          go_wp2
                                          go_meet
                                          case rel => exact ⟨_, (decide ((rd t267 x161_4) < 0)), (by first | rfl | (simp; done) | (simp [*]; done)), H', ⟨by have := HJ6.out; have := HK2.out; have := HK3.out; have := HK4.out; first | omega | exact Nat.le_refl _⟩, ⟨by (try simp only [hl10_2]); (with_reducible repeat (first | apply Kd.R_alloc | apply Kd.R_drewN | apply Kd.R_drew)); exact HO_13.out⟩, ⟨by (try simp only [hl10_2]); (with_reducible repeat (first | apply Kd.R_alloc | apply Kd.R_drewN | apply Kd.R_drew)); exact HO_159.out⟩, ⟨by (try simp only [hl10_2]); (with_reducible repeat (first | refine blk_drewN ?_ _ | refine blk_drew ?_ | refine blk_alloc ?_ _)); exact BK223.out⟩, ⟨by repeat (first | (with_reducible first | exact HB.out | apply below_alloc | apply pw_below_drewN | apply below_drew1 | refine below_set ?_ GE223.out) | exact HB.out)⟩⟩
                                      case rest =>
                                        clear HC120
                                        (try clear c1); (try clear p1); (try clear q1); (try clear hx1); (try clear c2); (try clear p2); (try clear q2); (try clear hx2); (try clear c3); (try clear p3); (try clear q3); (try clear hx3); (try clear c4); (try clear p4); (try clear q4); (try clear hx4); (try clear hf4); (try clear c5); (try clear p5); (try clear q5); (try clear hx5); (try clear hf5); (try clear c6); (try clear p6); (try clear c7); (try clear q7); (try clear c8); (try clear q8); (try clear c9); (try clear p9); (try clear q9); (try clear hx9); (try clear hf9); (try clear p10); (try clear q10); (try clear hx10); (try clear hf10); (try clear c11); (try clear c12); (try clear c14); (try clear c22); (try clear c23); (try clear p23); (try clear q23); (try clear hx23); (try clear c25); (try clear p25); (try clear q25); (try clear hx25); (try clear c26); (try clear p26); (try clear q26); (try clear hx26); (try clear p27); (try clear q27); (try clear hx27); (try clear c28); (try clear c28b0); (try clear c29); (try clear c30); (try clear c31); (try clear c32); (try clear p33); (try clear q33); (try clear hx33); (try clear hx36); (try clear c38); (try clear c38b0); (try clear c39); (try clear c39b0); (try clear c40); (try clear c40b0); (try clear c41); (try clear c41b0); (try clear c41b1); (try clear c42); (try clear c42b0); (try clear c43); (try clear c43b0); (try clear p44); (try clear q44); (try clear hx44); (try clear hf44); (try clear c46); (try clear q46); (try clear c48); (try clear c48b0); (try clear c50); (try clear c50b0); (try clear c50b1); (try clear c52); (try clear c52b0); (try clear c53); (try clear c53b0); (try clear p54); (try clear q54); (try clear hx54); (try clear hf54); (try clear c56); (try clear q56); (try clear c58); (try clear c62); (try clear c62b0); (try clear c63); (try clear c63b0); (try clear c63b1); (try clear c64); (try clear c64b0); (try clear c64b1); (try clear p64); (try clear c69); (try clear c69b0); (try clear c70); (try clear c70b0); (try clear c72); (try clear c72b0); (try clear c73); (try clear c73b0); (try clear c74); (try clear c74b0); (try clear c75); (try clear c75b0); (try clear q76); (try clear c77); (try clear c78); (try clear c78b0); (try clear c79); (try clear c79b0); (try clear c80); (try clear c81); (try clear c83); (try clear c83b0); (try clear c84); (try clear c84b0); (try clear c85); (try clear c85b0); (try clear c86); (try clear c86b0); (try clear q87); (try clear c88); (try clear c89); (try clear c89b0); (try clear c90); (try clear c94); (try clear c94b0); (try clear c95); (try clear c95b0); (try clear p96); (try clear q96); (try clear hx96); (try clear hf96); (try clear c97); (try clear c97b0); (try clear q98); (try clear c99); (try clear p100); (try clear q100); (try clear hx100); (try clear hf100); (try clear c117); (try clear c117b0); (try clear c118); (try clear c118b0); (try clear c119); (try clear c119b0); (try clear c121); (try clear c121b0); (try clear hcz101_0); (try clear hcz101_1); (try clear hcz101_10); (try clear hcz101_11); (try clear hcz101_2); (try clear hcz101_3); (try clear hcz101_4); (try clear hcz101_5); (try clear hcz101_6); (try clear hcz101_7); (try clear hcz101_8); (try clear hcz101_9); (try clear hcz108_0); (try clear hcz108_1); (try clear hcz108_10); (try clear hcz108_11); (try clear hcz108_2); (try clear hcz108_3); (try clear hcz108_4); (try clear hcz108_5); (try clear hcz108_6); (try clear hcz108_7); (try clear hcz108_8); (try clear hcz108_9); (try clear hcz114_0); (try clear hcz114_1); (try clear hcz114_10); (try clear hcz114_11); (try clear hcz114_2); (try clear hcz114_3); (try clear hcz114_4); (try clear hcz114_5); (try clear hcz114_6); (try clear hcz114_7); (try clear hcz114_8); (try clear hcz114_9); (try clear hcz122_0); (try clear hcz122_1); (try clear hcz122_10); (try clear hcz122_11); (try clear hcz122_2); (try clear hcz122_3); (try clear hcz122_4); (try clear hcz122_5); (try clear hcz122_6); (try clear hcz122_7); (try clear hcz122_8); (try clear hcz122_9)
                                        (try clear hcz123_0); (try clear hcz123_1); (try clear hcz123_10); (try clear hcz123_11); (try clear hcz123_2); (try clear hcz123_3); (try clear hcz123_4); (try clear hcz123_5); (try clear hcz123_6); (try clear hcz123_7); (try clear hcz123_8); (try clear hcz123_9); (try clear hcz65_0); (try clear hcz65_1); (try clear hcz65_10); (try clear hcz65_11); (try clear hcz65_2); (try clear hcz65_3); (try clear hcz65_4); (try clear hcz65_5); (try clear hcz65_6); (try clear hcz65_7); (try clear hcz65_8); (try clear hcz65_9); (try clear hfz101_0); (try clear hfz101_1); (try clear hfz101_10); (try clear hfz101_11); (try clear hfz101_2); (try clear hfz101_3); (try clear hfz101_4); (try clear hfz101_5); (try clear hfz101_6); (try clear hfz101_7); (try clear hfz101_8); (try clear hfz101_9); (try clear hfz108_0); (try clear hfz108_1); (try clear hfz108_10); (try clear hfz108_11); (try clear hfz108_2); (try clear hfz108_3); (try clear hfz108_4); (try clear hfz108_5); (try clear hfz108_6); (try clear hfz108_7); (try clear hfz108_8); (try clear hfz108_9); (try clear hfz114_0); (try clear hfz114_1); (try clear hfz114_10); (try clear hfz114_11); (try clear hfz114_2); (try clear hfz114_3); (try clear hfz114_4); (try clear hfz114_5); (try clear hfz114_6); (try clear hfz114_7); (try clear hfz114_8); (try clear hfz114_9); (try clear hfz122_0); (try clear hfz122_1); (try clear hfz122_10); (try clear hfz122_11); (try clear hfz122_2); (try clear hfz122_3); (try clear hfz122_4); (try clear hfz122_5); (try clear hfz122_6); (try clear hfz122_7); (try clear hfz122_8); (try clear hfz122_9); (try clear hfz123_0); (try clear hfz123_1); (try clear hfz123_10); (try clear hfz123_11); (try clear hfz123_2); (try clear hfz123_3); (try clear hfz123_4); (try clear hfz123_5); (try clear hfz123_6); (try clear hfz123_7); (try clear hfz123_8); (try clear hfz123_9); (try clear hfz18_2); (try clear hfz18_3); (try clear hfz18_4); (try clear hfz18_5); (try clear hfz18_6); (try clear hfz18_7); (try clear hfz18_8); (try clear hfz18_9); (try clear hfz20_0); (try clear hfz20_1); (try clear hfz20_10); (try clear hfz20_11); (try clear hfz20_2); (try clear hfz20_3); (try clear hfz20_4); (try clear hfz20_5); (try clear hfz20_6); (try clear hfz20_7); (try clear hfz20_8); (try clear hfz20_9); (try clear hfz65_0); (try clear hfz65_1); (try clear hfz65_10); (try clear hfz65_11); (try clear hfz65_2); (try clear hfz65_3); (try clear hfz65_4); (try clear hfz65_5); (try clear hfz65_6); (try clear hfz65_7); (try clear hfz65_8); (try clear hfz65_9); (try clear hx100_0); (try clear hx233_0); (try clear hx234_0); (try clear hx238_0); (try clear hx253_0); (try clear hx255_0); (try clear hx256_0); (try clear hx257_0); (try clear hx261_0); (try clear hx262_0); (try clear hx263_0); (try clear hx270_0); (try clear hx33_0); (try clear hx36_0); (try clear hx44_0); (try clear hx54_0); (try clear hx96_0); (try clear p1); (try clear p10); (try clear p100); (try clear p2); (try clear p23); (try clear p233); (try clear p234); (try clear p238); (try clear p25); (try clear p253); (try clear p255); (try clear p256); (try clear p257); (try clear p26); (try clear p261); (try clear p262); (try clear p263); (try clear p270); (try clear p3); (try clear p33); (try clear p4); (try clear p44); (try clear p5); (try clear p54); (try clear p6); (try clear p64); (try clear p9); (try clear p96); (try clear q1); (try clear q10); (try clear q100); (try clear q2); (try clear q23); (try clear q233); (try clear q234); (try clear q238); (try clear q25); (try clear q253); (try clear q255); (try clear q256); (try clear q257); (try clear q26); (try clear q261); (try clear q262); (try clear q263); (try clear q270); (try clear q3); (try clear q33); (try clear q4); (try clear q44); (try clear q46); (try clear q5); (try clear q54); (try clear q56); (try clear q7); (try clear q76); (try clear q8); (try clear q87); (try clear q9); (try clear q96); (try clear q98)
                                        obtain ⟨kq, x173_119, rfl, HA, HJ119, HO_13, HO_159, BK223, HB⟩ := hcut
                                        cases kq with
                                        | zero => exact absurd HA.out (by simp [clepsydralaw15_RouteSettles.j8])
                                        | succ kj119 =>
                                          have H := HA.out
                                          clear HA
                                          simp only [clepsydralaw15_RouteSettles.j8] at H
                                          by_cases c124 : x173_119 = true
                                          · subst c124
                                            have H1 : (if 0 ≤ x161_4 then (if x161_4 < (x13_3.length : Int) then (if (rd x13_3 x161_4) = (wrap64 (a0_2 + 1)) then (clepsydralaw15_RouteSettles.l5 kj119 x13_3 t267 (t267.length : Int) (wrap64 (x161_4 + 1)) a0_0 a0_1 a0_2 a0_3 a0_4 a0_5 a0_6 a0_7 a0_8 a0_9 a0_10 a0_11) else (some false)) else (none)) else (none)) = some r := by rw [if_pos rfl] at H; exact H
                                            clear H
                                            have H := H1
                                            clear H1
                                            by_cases c125 : 0 ≤ x161_4
                                            · rw [if_pos c125] at H
                                              have c125b0 : decide (0 ≤ x161_4) = true := decide_eq_true c125
                                              clear c125
                                              by_cases c126 : x161_4 < (x13_3.length : Int)
                                              · rw [if_pos c126] at H
                                                have c126b0 : decide (x161_4 < (x13_3.length : Int)) = true := decide_eq_true c126
                                                clear c126
                                                by_cases c127 : (rd x13_3 x161_4) = (wrap64 (a0_2 + 1))
                                                · rw [if_pos c127] at H
                                                  have c127b0 : ((rd x13_3 x161_4) == (wrap64 (a0_2 + 1))) = true := beq_iff_eq.mpr c127
                                                  have c127b1 : ((rd x13_3 x161_4) != (wrap64 (a0_2 + 1))) = false := bne_eq_false_iff_eq.mpr c127
                                                  clear c127
                                                  have H' := Aside0.mk H
                                                  clear H
                                                  have hcz128_0 : wc.cell? ⟨gb223, 0, none⟩ = some (.int .i64 a0_0) := (blk_cell BK223.out 0).trans rfl
                                                  have hcz128_1 : wc.cell? ⟨gb223, 1, none⟩ = some (.int .i64 a0_1) := (blk_cell BK223.out 1).trans rfl
                                                  have hcz128_2 : wc.cell? ⟨gb223, 2, none⟩ = some (.int .i64 a0_2) := (blk_cell BK223.out 2).trans rfl
                                                  have hcz128_3 : wc.cell? ⟨gb223, 3, none⟩ = some (.int .i64 a0_3) := (blk_cell BK223.out 3).trans rfl
                                                  have hcz128_4 : wc.cell? ⟨gb223, 4, none⟩ = some (.int .i64 a0_4) := (blk_cell BK223.out 4).trans rfl
                                                  have hcz128_5 : wc.cell? ⟨gb223, 5, none⟩ = some (.int .i64 a0_5) := (blk_cell BK223.out 5).trans rfl
                                                  have hcz128_6 : wc.cell? ⟨gb223, 6, none⟩ = some (.int .i64 a0_6) := (blk_cell BK223.out 6).trans rfl
                                                  have hcz128_7 : wc.cell? ⟨gb223, 7, none⟩ = some (.int .i64 a0_7) := (blk_cell BK223.out 7).trans rfl
                                                  have hcz128_8 : wc.cell? ⟨gb223, 8, none⟩ = some (.int .i64 a0_8) := (blk_cell BK223.out 8).trans rfl
                                                  have hcz128_9 : wc.cell? ⟨gb223, 9, none⟩ = some (.int .i64 a0_9) := (blk_cell BK223.out 9).trans rfl
                                                  have hcz128_10 : wc.cell? ⟨gb223, 10, none⟩ = some (.int .i64 a0_10) := (blk_cell BK223.out 10).trans rfl
                                                  have hcz128_11 : wc.cell? ⟨gb223, 11, none⟩ = some (.int .i64 a0_11) := (blk_cell BK223.out 11).trans rfl
                                                  have hfz128_0 := blk_frozen BK223.out 0
                                                  have hfz128_1 := blk_frozen BK223.out 1
                                                  have hfz128_2 := blk_frozen BK223.out 2
                                                  have hfz128_3 := blk_frozen BK223.out 3
                                                  have hfz128_4 := blk_frozen BK223.out 4
                                                  have hfz128_5 := blk_frozen BK223.out 5
                                                  have hfz128_6 := blk_frozen BK223.out 6
                                                  have hfz128_7 := blk_frozen BK223.out 7
                                                  have hfz128_8 := blk_frozen BK223.out 8
                                                  have hfz128_9 := blk_frozen BK223.out 9
                                                  have hfz128_10 := blk_frozen BK223.out 10
                                                  have hfz128_11 := blk_frozen BK223.out 11
                                                  obtain ⟨Ao129, co129, eo129⟩ := Kd.R_slice HO_13.out
                                                  subst eo129
                                                  have p271 : 0 ≤ (x161_4 : Int) := of_decide_eq_true (by first | (with_reducible assumption) | assumption)
                                                  have q271 : x161_4 < (x13_3.length : Int) := of_decide_eq_true (by first | (with_reducible assumption) | assumption)
                                                  obtain ⟨ad271, e271, hx271_0⟩ := Kd.at_int (Kd.R_reads' HO_13.out).2.2 x161_4 p271 q271
                                                  cases e271
                                                  replace p271 := eq_true p271
                                                  replace q271 := eq_true q271
                                                  go_wp2
                                                  go_roundg kj119
                                                  case measure => have := HJ6.out; have := HK2.out; have := HK3.out; have := HK4.out; have := HJ119.out; omega
                                                  case rel => exact ⟨(wrap64 (x161_4 + 1)), (by first | rfl | (simp; done) | (simp [*]; done)), H', ⟨by have := HJ6.out; have := HK2.out; have := HK3.out; have := HK4.out; have := HJ119.out; omega⟩, ⟨by (try simp only [hl10_2]); (with_reducible repeat (first | apply Kd.R_alloc | apply Kd.R_drewN | apply Kd.R_drew)); exact HO_13.out⟩, ⟨by (try simp only [hl10_2]); (with_reducible repeat (first | apply Kd.R_alloc | apply Kd.R_drewN | apply Kd.R_drew)); exact HO_159.out⟩, ⟨by (try simp only [hl10_2]); (with_reducible repeat (first | refine blk_drewN ?_ _ | refine blk_drew ?_ | refine blk_alloc ?_ _)); exact BK223.out⟩, ⟨by repeat (first | (with_reducible first | exact HB.out | apply below_alloc | apply pw_below_drewN | apply below_drew1 | refine below_set ?_ GE223.out) | exact HB.out)⟩⟩
                                                · rw [if_neg c127] at H
                                                  have c127b0 : ((rd x13_3 x161_4) == (wrap64 (a0_2 + 1))) = false := beq_eq_false_iff_ne.mpr c127
                                                  have c127b1 : ((rd x13_3 x161_4) != (wrap64 (a0_2 + 1))) = true := bne_iff_ne.mpr c127
                                                  obtain rfl := Option.some.inj H
                                                  have hcz130_0 : wc.cell? ⟨gb223, 0, none⟩ = some (.int .i64 a0_0) := (blk_cell BK223.out 0).trans rfl
                                                  have hcz130_1 : wc.cell? ⟨gb223, 1, none⟩ = some (.int .i64 a0_1) := (blk_cell BK223.out 1).trans rfl
                                                  have hcz130_2 : wc.cell? ⟨gb223, 2, none⟩ = some (.int .i64 a0_2) := (blk_cell BK223.out 2).trans rfl
                                                  have hcz130_3 : wc.cell? ⟨gb223, 3, none⟩ = some (.int .i64 a0_3) := (blk_cell BK223.out 3).trans rfl
                                                  have hcz130_4 : wc.cell? ⟨gb223, 4, none⟩ = some (.int .i64 a0_4) := (blk_cell BK223.out 4).trans rfl
                                                  have hcz130_5 : wc.cell? ⟨gb223, 5, none⟩ = some (.int .i64 a0_5) := (blk_cell BK223.out 5).trans rfl
                                                  have hcz130_6 : wc.cell? ⟨gb223, 6, none⟩ = some (.int .i64 a0_6) := (blk_cell BK223.out 6).trans rfl
                                                  have hcz130_7 : wc.cell? ⟨gb223, 7, none⟩ = some (.int .i64 a0_7) := (blk_cell BK223.out 7).trans rfl
                                                  have hcz130_8 : wc.cell? ⟨gb223, 8, none⟩ = some (.int .i64 a0_8) := (blk_cell BK223.out 8).trans rfl
                                                  have hcz130_9 : wc.cell? ⟨gb223, 9, none⟩ = some (.int .i64 a0_9) := (blk_cell BK223.out 9).trans rfl
                                                  have hcz130_10 : wc.cell? ⟨gb223, 10, none⟩ = some (.int .i64 a0_10) := (blk_cell BK223.out 10).trans rfl
                                                  have hcz130_11 : wc.cell? ⟨gb223, 11, none⟩ = some (.int .i64 a0_11) := (blk_cell BK223.out 11).trans rfl
                                                  have hfz130_0 := blk_frozen BK223.out 0
                                                  have hfz130_1 := blk_frozen BK223.out 1
                                                  have hfz130_2 := blk_frozen BK223.out 2
                                                  have hfz130_3 := blk_frozen BK223.out 3
                                                  have hfz130_4 := blk_frozen BK223.out 4
                                                  have hfz130_5 := blk_frozen BK223.out 5
                                                  have hfz130_6 := blk_frozen BK223.out 6
                                                  have hfz130_7 := blk_frozen BK223.out 7
                                                  have hfz130_8 := blk_frozen BK223.out 8
                                                  have hfz130_9 := blk_frozen BK223.out 9
                                                  have hfz130_10 := blk_frozen BK223.out 10
                                                  have hfz130_11 := blk_frozen BK223.out 11
                                                  obtain ⟨Ao131, co131, eo131⟩ := Kd.R_slice HO_13.out
                                                  subst eo131
                                                  have p271 : 0 ≤ (x161_4 : Int) := of_decide_eq_true (by first | (with_reducible assumption) | assumption)
                                                  have q271 : x161_4 < (x13_3.length : Int) := of_decide_eq_true (by first | (with_reducible assumption) | assumption)
                                                  obtain ⟨ad271, e271, hx271_0⟩ := Kd.at_int (Kd.R_reads' HO_13.out).2.2 x161_4 p271 q271
                                                  cases e271
                                                  replace p271 := eq_true p271
                                                  replace q271 := eq_true q271
                                                  go_wp2
                                                  go_ret
                                                  exact ⟨by first | rfl | (simp [errW_none, errW_some] <;> rfl) | (simp [*, errW_none, errW_some] <;> rfl), by repeat (first | (with_reducible first | exact HB.out | apply below_alloc | apply pw_below_drewN | apply below_drew1 | refine below_set ?_ GE223.out) | exact HB.out)⟩
                                              · rw [if_neg c126] at H
                                                exact absurd H (by simp)
                                            · rw [if_neg c125] at H
                                              exact absurd H (by simp)
                                          · replace c124 := Bool.eq_false_iff.mpr c124
                                            subst c124
                                            have H1 : (if 0 ≤ x161_4 then (if x161_4 < (x13_3.length : Int) then (if (rd x13_3 x161_4) = (rd t267 x161_4) then (clepsydralaw15_RouteSettles.l5 kj119 x13_3 t267 (t267.length : Int) (wrap64 (x161_4 + 1)) a0_0 a0_1 a0_2 a0_3 a0_4 a0_5 a0_6 a0_7 a0_8 a0_9 a0_10 a0_11) else (some false)) else (none)) else (none)) = some r := by rw [if_neg (show ¬ (false = true) by decide)] at H; exact H
                                            clear H
                                            have H := H1
                                            clear H1
                                            by_cases c132 : 0 ≤ x161_4
                                            · rw [if_pos c132] at H
                                              have c132b0 : decide (0 ≤ x161_4) = true := decide_eq_true c132
                                              clear c132
                                              by_cases c133 : x161_4 < (x13_3.length : Int)
                                              · rw [if_pos c133] at H
                                                have c133b0 : decide (x161_4 < (x13_3.length : Int)) = true := decide_eq_true c133
                                                clear c133
                                                by_cases c134 : (rd x13_3 x161_4) = (rd t267 x161_4)
                                                · rw [if_pos c134] at H
                                                  have c134b0 : ((rd x13_3 x161_4) == (rd t267 x161_4)) = true := beq_iff_eq.mpr c134
                                                  have c134b1 : ((rd x13_3 x161_4) != (rd t267 x161_4)) = false := bne_eq_false_iff_eq.mpr c134
                                                  clear c134
                                                  have H' := Aside0.mk H
                                                  clear H
                                                  obtain ⟨Ao135, co135, eo135⟩ := Kd.R_slice HO_13.out
                                                  subst eo135
                                                  have p272 : 0 ≤ (x161_4 : Int) := of_decide_eq_true (by first | (with_reducible assumption) | assumption)
                                                  have q272 : x161_4 < (x13_3.length : Int) := of_decide_eq_true (by first | (with_reducible assumption) | assumption)
                                                  obtain ⟨ad272, e272, hx272_0⟩ := Kd.at_int (Kd.R_reads' HO_13.out).2.2 x161_4 p272 q272
                                                  cases e272
                                                  replace p272 := eq_true p272
                                                  replace q272 := eq_true q272
                                                  go_wp2
                                                  go_roundg kj119
                                                  case measure => have := HJ6.out; have := HK2.out; have := HK3.out; have := HK4.out; have := HJ119.out; omega
                                                  case rel => exact ⟨(wrap64 (x161_4 + 1)), (by first | rfl | (simp; done) | (simp [*]; done)), H', ⟨by have := HJ6.out; have := HK2.out; have := HK3.out; have := HK4.out; have := HJ119.out; omega⟩, ⟨by (try simp only [hl10_2]); (with_reducible repeat (first | apply Kd.R_alloc | apply Kd.R_drewN | apply Kd.R_drew)); exact HO_13.out⟩, ⟨by (try simp only [hl10_2]); (with_reducible repeat (first | apply Kd.R_alloc | apply Kd.R_drewN | apply Kd.R_drew)); exact HO_159.out⟩, ⟨by (try simp only [hl10_2]); (with_reducible repeat (first | refine blk_drewN ?_ _ | refine blk_drew ?_ | refine blk_alloc ?_ _)); exact BK223.out⟩, ⟨by repeat (first | (with_reducible first | exact HB.out | apply below_alloc | apply pw_below_drewN | apply below_drew1 | refine below_set ?_ GE223.out) | exact HB.out)⟩⟩
                                                · rw [if_neg c134] at H
                                                  have c134b0 : ((rd x13_3 x161_4) == (rd t267 x161_4)) = false := beq_eq_false_iff_ne.mpr c134
                                                  have c134b1 : ((rd x13_3 x161_4) != (rd t267 x161_4)) = true := bne_iff_ne.mpr c134
                                                  obtain rfl := Option.some.inj H
                                                  obtain ⟨Ao136, co136, eo136⟩ := Kd.R_slice HO_13.out
                                                  subst eo136
                                                  have p272 : 0 ≤ (x161_4 : Int) := of_decide_eq_true (by first | (with_reducible assumption) | assumption)
                                                  have q272 : x161_4 < (x13_3.length : Int) := of_decide_eq_true (by first | (with_reducible assumption) | assumption)
                                                  obtain ⟨ad272, e272, hx272_0⟩ := Kd.at_int (Kd.R_reads' HO_13.out).2.2 x161_4 p272 q272
                                                  cases e272
                                                  replace p272 := eq_true p272
                                                  replace q272 := eq_true q272
                                                  go_wp2
                                                  go_ret
                                                  exact ⟨by first | rfl | (simp [errW_none, errW_some] <;> rfl) | (simp [*, errW_none, errW_some] <;> rfl), by repeat (first | (with_reducible first | exact HB.out | apply below_alloc | apply pw_below_drewN | apply below_drew1 | refine below_set ?_ GE223.out) | exact HB.out)⟩
                                              · rw [if_neg c133] at H
                                                exact absurd H (by simp)
                                            · rw [if_neg c132] at H
                                              exact absurd H (by simp)
                                    · rw [if_neg c119] at H
                                      exact absurd H (by simp)
                                  · rw [if_neg c118] at H
                                    exact absurd H (by simp)
                                · rw [if_neg c117] at H
                                  have c117b0 : decide (x161_4 < (t267.length : Int)) = false := decide_eq_false c117
                                  clear c117
                                  obtain rfl := Option.some.inj H
                                  go_wp2
                                  go_ret
                                  exact ⟨by first | rfl | (simp [errW_none, errW_some] <;> rfl) | (simp [*, errW_none, errW_some] <;> rfl), by repeat (first | (with_reducible first | exact HB.out | apply below_alloc | apply pw_below_drewN | apply below_drew1 | refine below_set ?_ GE223.out) | exact HB.out)⟩
                    · rw [if_neg c58] at H
                      exact absurd H (by simp)
            · rw [if_neg c24] at H
              exact absurd H (by simp)
          · rw [if_neg c23] at H
            exact absurd H (by simp)
  · replace c6 := Bool.eq_false_iff.mpr c6
    subst c6
    have H1 : (some false) = some r := by rw [if_neg (show ¬ (false = true) by decide)] at H; exact H
    clear H
    have H := H1
    clear H1
    obtain rfl := Option.some.inj H
    go_enter Try.func6, Try.ntmps6
    go_wp2_with (first | ((with_reducible refine gate_dst (N := 4) rfl ?_); (try (refine gate_guard (by rfl) ?_; dsimp only)); refine box_event ?hg (N := 4) ?hd (cs := #[.int .i64 a0_0, .int .i64 a0_1, .int .i64 a0_2, .int .i64 a0_3, .int .i64 a0_4, .int .i64 a0_5, .int .i64 a0_6, .int .i64 a0_7, .int .i64 a0_8, .int .i64 a0_9, .int .i64 a0_10, .int .i64 a0_11]) (t := 23) ?hr ?_; (case hd => rfl); (case hg => rfl); (case hr => first | (go_simp; done) | (go_simp; rfl)); intro gb223 hg w137 hbox hb; have n0_ := Aside0.mk (below_step (by repeat (first | (with_reducible first | exact HB.out | apply below_alloc | apply pw_below_drewN | apply below_drew1) | exact HB.out)) hb); have n1_ := Aside0.mk (hbox); have n2_ := Aside0.mk ((by rw [hg]; exact (below_size (by repeat (first | (with_reducible first | exact HB.out | apply below_alloc | apply pw_below_drewN | apply below_drew1) | exact HB.out))) : w.heap.size ≤ gb223)); have n3_ := Aside0.mk ((by rw [hg]; exact (below_size (by repeat (first | (with_reducible first | exact HB.out | apply below_alloc | apply pw_below_drewN | apply below_drew1) | exact HB.out))) : w.heap.size ≤ gb223)); clear HB; have HB := n0_; have BK223 := n1_; have GW223 := n2_; have GE223 := n3_; clear n0_ n1_ n2_ n3_; clear hb hbox hg) | ((with_reducible refine gate_callee (f := 12) rfl ?_); refine goesL_ (some 21) rfl rfl Try.func12 (by kernel_rfl) rfl #[] rfl (by (try simp only [List.map_toArray, List.map_cons, List.map_nil]); first | done | rfl | (simp only [List.length_drop, List.length_take]; rfl)) ?_; (with_reducible refine (clepsydralaw15_alive.calls k  false _ A5.out).mono ?_); rintro e w138 ⟨rfl, hb⟩; refine ⟨_, rfl, ?_⟩; have n0_ := Aside0.mk (blk_below (g := gb223) (o := .cells #[.int .i64 a0_0, .int .i64 a0_1, .int .i64 a0_2, .int .i64 a0_3, .int .i64 a0_4, .int .i64 a0_5, .int .i64 a0_6, .int .i64 a0_7, .int .i64 a0_8, .int .i64 a0_9, .int .i64 a0_10, .int .i64 a0_11] 23 (0, 0)) (by (with_reducible repeat (first | refine blk_drewN ?_ _ | refine blk_drew ?_ | refine blk_alloc ?_ _)); exact BK223.out) hb); have n1_ := Aside0.mk (below_step (by repeat (first | (with_reducible first | exact HB.out | apply below_alloc | apply pw_below_drewN | apply below_drew1 | refine below_set ?_ GE223.out) | exact HB.out)) hb); clear BK223; clear HB; have BK223 := n0_; have HB := n1_; clear n0_ n1_; (try clear hb); (try clear hb2); (try clear hk); (try clear hi)))
    go_ret
    exact ⟨by first | rfl | (simp [errW_none, errW_some] <;> rfl) | (simp [*, errW_none, errW_some] <;> rfl), by repeat (first | (with_reducible first | exact HB.out | apply below_alloc | apply pw_below_drewN | apply below_drew1 | refine below_set ?_ GE223.out) | exact HB.out)⟩

end Go.Proofs.Ytaiggeogiolbnaa.K
