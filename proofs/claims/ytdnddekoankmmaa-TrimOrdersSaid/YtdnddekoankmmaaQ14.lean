-- Laid by a program of this session out of the translation (over the print of the kit); Lean checks it.
import Derived.Test.YtdnddekoankmmaaQ0
import Derived.Test.YtdnddekoankmmaaQ1
import Derived.Test.YtdnddekoankmmaaQ10
import Derived.Test.YtdnddekoankmmaaQ12
import Derived.Test.YtdnddekoankmmaaGl
namespace Go.Proofs.Ytdnddekoankmmaa.Q
open Go.RowKit Go.Proofs.YtdnddekoankmmaaW.PrintWords Go.Proofs.YtdnddekoankmmaaW.PrintLast Go.Proofs.YtdnddekoankmmaaW.PrintMore
attribute [local go_sem] max2_int min2_int max_two min_two max_three min_three max_four min_four   -- for this text's walks alone
set_option linter.unusedVariables false
set_option linter.unusedSimpArgs false

attribute [local go_sem high] eqA38
/-! ### clepsydralaw07_TrimBetween: function 10 -/
mutual
def clepsydralaw07_TrimBetween.j0 : Nat → Int → List Int → Int → Int → Bool → Option (Bool)
  | 0, _, _, _, _, _ => none
  | k + 1, x0, x1, x2, x3, x42 => if x42 = true then (some true) else (clepsydralaw07_TrimBetween.l0 k x0 x1 x2 x3 0 x1 (x1.length : Int) 0)
def clepsydralaw07_TrimBetween.l0 : Nat → Int → List Int → Int → Int → Int → List Int → Int → Int → Option (Bool)
  | 0, _, _, _, _, _, _, _, _ => none
  | k + 1, x0, x1, x2, x3, x9, x43, x44, x45 => if x45 < x44 then (if 0 ≤ x45 then (if x45 < (x43.length : Int) then (if (rd x43 x45) < x2 then (clepsydralaw07_TrimBetween.l0 k x0 x1 x2 x3 (wrap64 (x9 + 1)) x43 x44 (wrap64 (x45 + 1))) else (if (rd x43 x45) > x3 then (clepsydralaw07_TrimBetween.l0 k x0 x1 x2 x3 (wrap64 (x9 + 1)) x43 x44 (wrap64 (x45 + 1))) else (clepsydralaw07_TrimBetween.l0 k x0 x1 x2 x3 x9 x43 x44 (wrap64 (x45 + 1))))) else (none)) else (none)) else (if x9 > x0 then (some true) else ((trim_Middle.f k x0 x1).bind fun bt330 => (if bt330.2 = true then (if x2 ≤ bt330.1 then (some (decide (bt330.1 ≤ x3))) else (some false)) else (some false))))
end
def clepsydralaw07_TrimBetween.f (k : Nat) (a0 : Int) (l1 : List Int) (a2 : Int) (a3 : Int) : Option (Bool) := (clepsydralaw07_alive.f k).bind fun t328 => (if t328 = true then (if (l1.length : Int) > 256 then (clepsydralaw07_TrimBetween.j0 k a0 l1 a2 a3 true) else (if a0 < 0 then (clepsydralaw07_TrimBetween.j0 k a0 l1 a2 a3 true) else (if a0 > 256 then (clepsydralaw07_TrimBetween.j0 k a0 l1 a2 a3 true) else (if (l1.length : Int) < (wrap64 ((wrap64 (2 * a0)) + 1)) then (clepsydralaw07_TrimBetween.j0 k a0 l1 a2 a3 true) else (if a2 < (-2305843009213693952) then (clepsydralaw07_TrimBetween.j0 k a0 l1 a2 a3 true) else (clepsydralaw07_TrimBetween.j0 k a0 l1 a2 a3 (decide (a3 > 2305843009213693952)))))))) else (some false))
theorem clepsydralaw07_TrimBetween.mono_l : ∀ k, (∀ y0 y1 y2 y3 y4, LeO (clepsydralaw07_TrimBetween.j0 k y0 y1 y2 y3 y4) (clepsydralaw07_TrimBetween.j0 (k + 1) y0 y1 y2 y3 y4)) ∧ (∀ y0 y1 y2 y3 y4 y5 y6 y7, LeO (clepsydralaw07_TrimBetween.l0 k y0 y1 y2 y3 y4 y5 y6 y7) (clepsydralaw07_TrimBetween.l0 (k + 1) y0 y1 y2 y3 y4 y5 y6 y7))
  | 0 => ⟨fun _ _ _ _ _ r h => by simp [clepsydralaw07_TrimBetween.j0] at h, fun _ _ _ _ _ _ _ _ r h => by simp [clepsydralaw07_TrimBetween.l0] at h⟩
  | k + 1 => by
    obtain ⟨ih0, ih1⟩ := clepsydralaw07_TrimBetween.mono_l k
    refine ⟨?_, ?_⟩
    · intro y0 y1 y2 y3 y4
      unfold clepsydralaw07_TrimBetween.j0
      repeat' first
      | (with_reducible exact ih0 _ _ _ _ _)
      | (with_reducible exact ih1 _ _ _ _ _ _ _ _)
      | (with_reducible exact clepsydralaw07_alive.mono _)
      | (with_reducible exact trim_Middle.mono _ _ _)
      | (with_reducible exact LeO.refl _)
      | (with_reducible exact LeO.none _)
      | (with_reducible refine LeO.ite ?_ ?_)
      | (with_reducible refine LeO.bind ?_ (fun _ => ?_))
      | exact ih0 _ _ _ _ _
      | exact ih1 _ _ _ _ _ _ _ _
      | exact clepsydralaw07_alive.mono _
      | exact trim_Middle.mono _ _ _
      | exact LeO.none _
      | refine LeO.ite ?_ ?_
      | refine LeO.bind ?_ (fun _ => ?_)
    · intro y0 y1 y2 y3 y4 y5 y6 y7
      unfold clepsydralaw07_TrimBetween.l0
      repeat' first
      | (with_reducible exact ih0 _ _ _ _ _)
      | (with_reducible exact ih1 _ _ _ _ _ _ _ _)
      | (with_reducible exact clepsydralaw07_alive.mono _)
      | (with_reducible exact trim_Middle.mono _ _ _)
      | (with_reducible exact LeO.refl _)
      | (with_reducible exact LeO.none _)
      | (with_reducible refine LeO.ite ?_ ?_)
      | (with_reducible refine LeO.bind ?_ (fun _ => ?_))
      | exact ih0 _ _ _ _ _
      | exact ih1 _ _ _ _ _ _ _ _
      | exact clepsydralaw07_alive.mono _
      | exact trim_Middle.mono _ _ _
      | exact LeO.none _
      | refine LeO.ite ?_ ?_
      | refine LeO.bind ?_ (fun _ => ?_)
theorem clepsydralaw07_TrimBetween.mono : ∀ a0 a1 a2 a3 k, LeO (clepsydralaw07_TrimBetween.f k a0 a1 a2 a3) (clepsydralaw07_TrimBetween.f (k + 1) a0 a1 a2 a3) := by
  intro a0 a1 a2 a3 k
  obtain ⟨ih0, ih1⟩ := clepsydralaw07_TrimBetween.mono_l k
  unfold clepsydralaw07_TrimBetween.f
  repeat' first
      | (with_reducible exact ih0 _ _ _ _ _)
      | (with_reducible exact ih1 _ _ _ _ _ _ _ _)
      | (with_reducible exact clepsydralaw07_alive.mono _)
      | (with_reducible exact trim_Middle.mono _ _ _)
      | (with_reducible exact LeO.refl _)
      | (with_reducible exact LeO.none _)
      | (with_reducible refine LeO.ite ?_ ?_)
      | (with_reducible refine LeO.bind ?_ (fun _ => ?_))
      | exact ih0 _ _ _ _ _
      | exact ih1 _ _ _ _ _ _ _ _
      | exact clepsydralaw07_alive.mono _
      | exact trim_Middle.mono _ _ _
      | exact LeO.none _
      | refine LeO.ite ?_ ?_
      | refine LeO.bind ?_ (fun _ => ?_)
set_option maxHeartbeats 8000000 in
set_option maxRecDepth 100000 in
theorem clepsydralaw07_TrimBetween.calls (k : Nat) (a0 : Int) (A1 : Option Addr) (c1 : Nat) (l1 : List Int) (a2 : Int) (a3 : Int) (r : Bool) (w : World) (hr1 : Kd.C (Kd.int .i64) w A1 l1.length l1) (hc1 : l1.length ≤ c1) (h : clepsydralaw07_TrimBetween.f k a0 l1 a2 a3 = some r) :
    Calls Try.prog 10 #[.int .i64 a0, .slice A1 l1.length c1, .int .i64 a2, .int .i64 a3] w fun e w' => e = .returned (.bool r) ∧ Below w.heap.size w w' := by
  have HR1 := Aside0.mk hr1
  have HC1 := Aside0.mk hc1
  clear hr1 hc1
  have HB := Aside0.mk (Below.refl w.heap.size w)
  have H : ((clepsydralaw07_alive.f k).bind fun t328 => (if t328 = true then (if (l1.length : Int) > 256 then (clepsydralaw07_TrimBetween.j0 k a0 l1 a2 a3 true) else (if a0 < 0 then (clepsydralaw07_TrimBetween.j0 k a0 l1 a2 a3 true) else (if a0 > 256 then (clepsydralaw07_TrimBetween.j0 k a0 l1 a2 a3 true) else (if (l1.length : Int) < (wrap64 ((wrap64 (2 * a0)) + 1)) then (clepsydralaw07_TrimBetween.j0 k a0 l1 a2 a3 true) else (if a2 < (-2305843009213693952) then (clepsydralaw07_TrimBetween.j0 k a0 l1 a2 a3 true) else (clepsydralaw07_TrimBetween.j0 k a0 l1 a2 a3 (decide (a3 > 2305843009213693952)))))))) else (some false))) = some r := h
  clear h
  replace H := Option.bind_eq_some_iff.mp H
  obtain ⟨t328, A50, H⟩ := H
  replace H : (if t328 = true then (if (l1.length : Int) > 256 then (clepsydralaw07_TrimBetween.j0 k a0 l1 a2 a3 true) else (if a0 < 0 then (clepsydralaw07_TrimBetween.j0 k a0 l1 a2 a3 true) else (if a0 > 256 then (clepsydralaw07_TrimBetween.j0 k a0 l1 a2 a3 true) else (if (l1.length : Int) < (wrap64 ((wrap64 (2 * a0)) + 1)) then (clepsydralaw07_TrimBetween.j0 k a0 l1 a2 a3 true) else (if a2 < (-2305843009213693952) then (clepsydralaw07_TrimBetween.j0 k a0 l1 a2 a3 true) else (clepsydralaw07_TrimBetween.j0 k a0 l1 a2 a3 (decide (a3 > 2305843009213693952)))))))) else (some false)) = some r := H
  have A5 := Aside0.mk A50
  clear A50
  by_cases c6 : t328 = true
  · subst c6
    have H1 : (if (l1.length : Int) > 256 then (clepsydralaw07_TrimBetween.j0 k a0 l1 a2 a3 true) else (if a0 < 0 then (clepsydralaw07_TrimBetween.j0 k a0 l1 a2 a3 true) else (if a0 > 256 then (clepsydralaw07_TrimBetween.j0 k a0 l1 a2 a3 true) else (if (l1.length : Int) < (wrap64 ((wrap64 (2 * a0)) + 1)) then (clepsydralaw07_TrimBetween.j0 k a0 l1 a2 a3 true) else (if a2 < (-2305843009213693952) then (clepsydralaw07_TrimBetween.j0 k a0 l1 a2 a3 true) else (clepsydralaw07_TrimBetween.j0 k a0 l1 a2 a3 (decide (a3 > 2305843009213693952)))))))) = some r := by rw [if_pos rfl] at H; exact H
    clear H
    have H := H1
    clear H1
    have HC7 := Aside0.mk H
    clear H
    go_enter Try.func10, Try.ntmps10
    go_upto_region 3 with (first | ((with_reducible refine gate_callee (f := 30) rfl ?_); refine goesL_ (some 14) rfl rfl Try.func30 (by kernel_rfl) rfl #[] rfl (by (try simp only [List.map_toArray, List.map_cons, List.map_nil]); first | done | rfl | (simp only [List.length_drop, List.length_take]; rfl)) ?_; (with_reducible refine (clepsydralaw07_alive.calls k  true _ A5.out).mono ?_); rintro e w8 ⟨rfl, hb⟩; refine ⟨_, rfl, ?_⟩; have n0_ := Aside0.mk (below_step (by repeat (first | (with_reducible first | exact HB.out | apply below_alloc | apply pw_below_drewN | apply below_drew1) | exact HB.out)) hb); clear HB; have HB := n0_; clear n0_; (try clear hb); (try clear hb2); (try clear hk); (try clear hi)))
    (try simp only [Act.put, List.setIfInBounds_toArray, List.set_cons_zero, List.set_cons_succ])
    go_cut [42] (fun v42 wc => ∃ (kq : Nat) (x42_6 : Bool), v42 = .bool x42_6 ∧ Aside0 (clepsydralaw07_TrimBetween.j0 kq a0 l1 a2 a3 x42_6 = some r) ∧ Aside0 (kq ≤ k) ∧ Aside0 (Below w.heap.size w wc))
    case first =>
      have H := HC7.out
      clear HC7
      by_cases c9 : (l1.length : Int) > 256
      · rw [if_pos c9] at H
        have c9b0 : decide (256 < (l1.length : Int)) = true := decide_eq_true c9
        have c9b1 : decide (256 < l1.length) = true := decide_eq_true (by omega)
        clear c9
        (first | rw [c9b0] | (simp only [i64_w, i32_w]; rw [c9b0]) | skip)
        have H' := Aside0.mk H
        clear H
        go_wp2
        go_meet
        case rel => exact ⟨_, (true), (by first | rfl | (simp; done) | (simp [*]; done)), H', ⟨by first | omega | exact Nat.le_refl _⟩, ⟨by repeat (first | (with_reducible first | exact HB.out | apply below_alloc | apply pw_below_drewN | apply below_drew1) | exact HB.out)⟩⟩
      · rw [if_neg c9] at H
        have c9b0 : decide (256 < (l1.length : Int)) = false := decide_eq_false c9
        have c9b1 : decide (256 < l1.length) = false := decide_eq_false (by omega)
        clear c9
        (first | rw [c9b0] | (simp only [i64_w, i32_w]; rw [c9b0]) | skip)
        by_cases c10 : a0 < 0
        · rw [if_pos c10] at H
          have c10b0 : decide (a0 < 0) = true := decide_eq_true c10
          clear c10
          have H' := Aside0.mk H
          clear H
          go_wp2
          go_meet
          case rel => exact ⟨_, (true), (by first | rfl | (simp; done) | (simp [*]; done)), H', ⟨by first | omega | exact Nat.le_refl _⟩, ⟨by repeat (first | (with_reducible first | exact HB.out | apply below_alloc | apply pw_below_drewN | apply below_drew1) | exact HB.out)⟩⟩
        · rw [if_neg c10] at H
          have c10b0 : decide (a0 < 0) = false := decide_eq_false c10
          clear c10
          by_cases c11 : a0 > 256
          · rw [if_pos c11] at H
            have c11b0 : decide (256 < a0) = true := decide_eq_true c11
            clear c11
            have H' := Aside0.mk H
            clear H
            go_wp2
            go_meet
            case rel => exact ⟨_, (true), (by first | rfl | (simp; done) | (simp [*]; done)), H', ⟨by first | omega | exact Nat.le_refl _⟩, ⟨by repeat (first | (with_reducible first | exact HB.out | apply below_alloc | apply pw_below_drewN | apply below_drew1) | exact HB.out)⟩⟩
          · rw [if_neg c11] at H
            have c11b0 : decide (256 < a0) = false := decide_eq_false c11
            clear c11
            by_cases c12 : (l1.length : Int) < (wrap64 ((wrap64 (2 * a0)) + 1))
            · rw [if_pos c12] at H
              have c12b0 : decide ((l1.length : Int) < (wrap64 ((wrap64 (2 * a0)) + 1))) = true := decide_eq_true c12
              clear c12
              have H' := Aside0.mk H
              clear H
              go_wp2
              go_meet
              case rel => exact ⟨_, (true), (by first | rfl | (simp; done) | (simp [*]; done)), H', ⟨by first | omega | exact Nat.le_refl _⟩, ⟨by repeat (first | (with_reducible first | exact HB.out | apply below_alloc | apply pw_below_drewN | apply below_drew1) | exact HB.out)⟩⟩
            · rw [if_neg c12] at H
              have c12b0 : decide ((l1.length : Int) < (wrap64 ((wrap64 (2 * a0)) + 1))) = false := decide_eq_false c12
              clear c12
              by_cases c13 : a2 < (-2305843009213693952)
              · rw [if_pos c13] at H
                have c13b0 : decide (a2 < (-2305843009213693952)) = true := decide_eq_true c13
                clear c13
                have H' := Aside0.mk H
                clear H
                go_wp2
                go_meet
                case rel => exact ⟨_, (true), (by first | rfl | (simp; done) | (simp [*]; done)), H', ⟨by first | omega | exact Nat.le_refl _⟩, ⟨by repeat (first | (with_reducible first | exact HB.out | apply below_alloc | apply pw_below_drewN | apply below_drew1) | exact HB.out)⟩⟩
              · rw [if_neg c13] at H
                have c13b0 : decide (a2 < (-2305843009213693952)) = false := decide_eq_false c13
                clear c13
                have H' := Aside0.mk H
                clear H
                go_wp2
                go_meet
                case rel => exact ⟨_, (decide (a3 > 2305843009213693952)), (by first | rfl | (simp; done) | (simp [*]; done)), H', ⟨by first | omega | exact Nat.le_refl _⟩, ⟨by repeat (first | (with_reducible first | exact HB.out | apply below_alloc | apply pw_below_drewN | apply below_drew1) | exact HB.out)⟩⟩
    case rest =>
      clear HC7
      try clear c1
      try clear p2
      try clear c3
      try clear c6
      try clear p6
      try clear c9
      try clear c9b0
      try clear c9b1
      try clear c10
      try clear c10b0
      try clear c11
      try clear c11b0
      try clear c12
      try clear c12b0
      try clear c13
      try clear c13b0
      obtain ⟨kq, x42_6, rfl, HA, HJ6, HB⟩ := hcut
      cases kq with
      | zero => exact absurd HA.out (by simp [clepsydralaw07_TrimBetween.j0])
      | succ kj6 =>
        have H := HA.out
        clear HA
        simp only [clepsydralaw07_TrimBetween.j0] at H
        by_cases c14 : x42_6 = true
        · subst c14
          have H1 : (some true) = some r := by rw [if_pos rfl] at H; exact H
          clear H
          have H := H1
          clear H1
          obtain rfl := Option.some.inj H
          go_wp2
          go_ret
          exact ⟨by first | rfl | (simp [errW_none, errW_some] <;> rfl) | (simp [*, errW_none, errW_some] <;> rfl), by repeat (first | (with_reducible first | exact HB.out | apply below_alloc | apply pw_below_drewN | apply below_drew1) | exact HB.out)⟩
        · replace c14 := Bool.eq_false_iff.mpr c14
          subst c14
          have H1 : (clepsydralaw07_TrimBetween.l0 kj6 a0 l1 a2 a3 0 l1 (l1.length : Int) 0) = some r := by rw [if_neg (show ¬ (false = true) by decide)] at H; exact H
          clear H
          have H := H1
          clear H1
          have H' := Aside0.mk H
          clear H
          go_wp2
          go_loopg [9, 45] kj6 (fun kq v9 v45 w' => ∃ (x9_2 : Int) (x45_2 : Int), v9 = .int .i64 x9_2 ∧ v45 = .int .i64 x45_2 ∧ Aside0 (clepsydralaw07_TrimBetween.l0 kq a0 l1 a2 a3 x9_2 l1 (l1.length : Int) x45_2 = some r) ∧ Aside0 (kq ≤ kj6) ∧ Aside0 (Below w.heap.size w w'))
          case atStart => exact ⟨(0), (0), (by first | rfl | (simp; done) | (simp [*]; done)), (by first | rfl | (simp; done) | (simp [*]; done)), H', ⟨Nat.le_refl _⟩, ⟨by repeat (first | (with_reducible first | exact HB.out | apply below_alloc | apply pw_below_drewN | apply below_drew1) | exact HB.out)⟩⟩
          case round =>
            clear H'
            try clear c1
            try clear p2
            try clear c3
            try clear c6
            try clear p6
            try clear c9
            try clear c9b0
            try clear c9b1
            try clear c10
            try clear c10b0
            try clear c11
            try clear c11b0
            try clear c12
            try clear c12b0
            try clear c13
            try clear c13b0
            try clear c14
            try clear p2
            try clear p6
            obtain ⟨x9_2, x45_2, rfl, rfl, HA, HK2, HB⟩ := hrel
            cases gk with
            | zero => exact absurd HA.out (by simp [clepsydralaw07_TrimBetween.l0])
            | succ k2 =>
              have H := HA.out
              clear HA
              simp only [clepsydralaw07_TrimBetween.l0] at H
              by_cases c15 : x45_2 < (l1.length : Int)
              · rw [if_pos c15] at H
                have c15b0 : decide (x45_2 < (l1.length : Int)) = true := decide_eq_true c15
                clear c15
                by_cases c16 : 0 ≤ x45_2
                · rw [if_pos c16] at H
                  have c16b0 : decide (0 ≤ x45_2) = true := decide_eq_true c16
                  clear c16
                  by_cases c17 : x45_2 < (l1.length : Int)
                  · rw [if_pos c17] at H
                    have c17b0 : decide (x45_2 < (l1.length : Int)) = true := decide_eq_true c17
                    clear c17
                    by_cases c18 : (rd l1 x45_2) < a2
                    · rw [if_pos c18] at H
                      have c18b0 : decide ((rd l1 x45_2) < a2) = true := decide_eq_true c18
                      clear c18
                      have H' := Aside0.mk H
                      clear H
                      have p329 : 0 ≤ (x45_2 : Int) := of_decide_eq_true (by first | (with_reducible assumption) | assumption)
                      have q329 : x45_2 < (l1.length : Int) := of_decide_eq_true (by first | (with_reducible assumption) | assumption)
                      obtain ⟨ad329, e329, hx329_0⟩ := Kd.at_int HR1.out x45_2 p329 q329
                      cases e329
                      replace hx329_0 := (HB.out.cell (World.block_lt_of_cell? w _ hx329_0)).trans hx329_0
                      replace p329 := eq_true p329
                      replace q329 := eq_true q329
                      go_wp2
                      go_roundg k2
                      case measure => have := HJ6.out; have := HK2.out; omega
                      case rel => exact ⟨(wrap64 (x9_2 + 1)), (wrap64 (x45_2 + 1)), (by first | rfl | (simp; done) | (simp [*]; done)), (by first | rfl | (simp; done) | (simp [*]; done)), H', ⟨by have := HJ6.out; have := HK2.out; omega⟩, ⟨by repeat (first | (with_reducible first | exact HB.out | apply below_alloc | apply pw_below_drewN | apply below_drew1) | exact HB.out)⟩⟩
                    · rw [if_neg c18] at H
                      have c18b0 : decide ((rd l1 x45_2) < a2) = false := decide_eq_false c18
                      clear c18
                      by_cases c19 : (rd l1 x45_2) > a3
                      · rw [if_pos c19] at H
                        have c19b0 : decide (a3 < (rd l1 x45_2)) = true := decide_eq_true c19
                        clear c19
                        have H' := Aside0.mk H
                        clear H
                        have p329 : 0 ≤ (x45_2 : Int) := of_decide_eq_true (by first | (with_reducible assumption) | assumption)
                        have q329 : x45_2 < (l1.length : Int) := of_decide_eq_true (by first | (with_reducible assumption) | assumption)
                        obtain ⟨ad329, e329, hx329_0⟩ := Kd.at_int HR1.out x45_2 p329 q329
                        cases e329
                        replace hx329_0 := (HB.out.cell (World.block_lt_of_cell? w _ hx329_0)).trans hx329_0
                        replace p329 := eq_true p329
                        replace q329 := eq_true q329
                        go_wp2
                        go_roundg k2
                        case measure => have := HJ6.out; have := HK2.out; omega
                        case rel => exact ⟨(wrap64 (x9_2 + 1)), (wrap64 (x45_2 + 1)), (by first | rfl | (simp; done) | (simp [*]; done)), (by first | rfl | (simp; done) | (simp [*]; done)), H', ⟨by have := HJ6.out; have := HK2.out; omega⟩, ⟨by repeat (first | (with_reducible first | exact HB.out | apply below_alloc | apply pw_below_drewN | apply below_drew1) | exact HB.out)⟩⟩
                      · rw [if_neg c19] at H
                        have c19b0 : decide (a3 < (rd l1 x45_2)) = false := decide_eq_false c19
                        clear c19
                        have H' := Aside0.mk H
                        clear H
                        have p329 : 0 ≤ (x45_2 : Int) := of_decide_eq_true (by first | (with_reducible assumption) | assumption)
                        have q329 : x45_2 < (l1.length : Int) := of_decide_eq_true (by first | (with_reducible assumption) | assumption)
                        obtain ⟨ad329, e329, hx329_0⟩ := Kd.at_int HR1.out x45_2 p329 q329
                        cases e329
                        replace hx329_0 := (HB.out.cell (World.block_lt_of_cell? w _ hx329_0)).trans hx329_0
                        replace p329 := eq_true p329
                        replace q329 := eq_true q329
                        go_wp2
                        go_roundg k2
                        case measure => have := HJ6.out; have := HK2.out; omega
                        case rel => exact ⟨(x9_2), (wrap64 (x45_2 + 1)), (by first | rfl | (simp; done) | (simp [*]; done)), (by first | rfl | (simp; done) | (simp [*]; done)), H', ⟨by have := HJ6.out; have := HK2.out; omega⟩, ⟨by repeat (first | (with_reducible first | exact HB.out | apply below_alloc | apply pw_below_drewN | apply below_drew1) | exact HB.out)⟩⟩
                  · rw [if_neg c17] at H
                    exact absurd H (by simp)
                · rw [if_neg c16] at H
                  exact absurd H (by simp)
              · rw [if_neg c15] at H
                have c15b0 : decide (x45_2 < (l1.length : Int)) = false := decide_eq_false c15
                clear c15
                by_cases c20 : x9_2 > a0
                · rw [if_pos c20] at H
                  have c20b0 : decide (a0 < x9_2) = true := decide_eq_true c20
                  clear c20
                  obtain rfl := Option.some.inj H
                  go_wp2
                  go_ret
                  exact ⟨by first | rfl | (simp [errW_none, errW_some] <;> rfl) | (simp [*, errW_none, errW_some] <;> rfl), by repeat (first | (with_reducible first | exact HB.out | apply below_alloc | apply pw_below_drewN | apply below_drew1) | exact HB.out)⟩
                · rw [if_neg c20] at H
                  have c20b0 : decide (a0 < x9_2) = false := decide_eq_false c20
                  clear c20
                  replace H := Option.bind_eq_some_iff.mp H
                  obtain ⟨⟨t330, t331⟩, A210, H⟩ := H
                  replace H : (if t331 = true then (if a2 ≤ t330 then (some (decide (t330 ≤ a3))) else (some false)) else (some false)) = some r := H
                  have A21 := Aside0.mk A210
                  clear A210
                  by_cases c22 : t331 = true
                  · subst c22
                    have H1 : (if a2 ≤ t330 then (some (decide (t330 ≤ a3))) else (some false)) = some r := by rw [if_pos rfl] at H; exact H
                    clear H
                    have H := H1
                    clear H1
                    by_cases c23 : a2 ≤ t330
                    · rw [if_pos c23] at H
                      have c23b0 : decide (a2 ≤ t330) = true := decide_eq_true c23
                      clear c23
                      obtain rfl := Option.some.inj H
                      go_wp2_with (first | ((with_reducible refine gate_callee (f := 26) rfl ?_); refine goesL_ (some 66) rfl rfl Try.func26 (by kernel_rfl) rfl #[.int .i64 a0, .slice A1 l1.length c1] rfl (by (try simp only [List.map_toArray, List.map_cons, List.map_nil]); first | done | rfl | (simp only [List.length_drop, List.length_take]; rfl)) ?_; (with_reducible refine (trim_Middle.calls k2 a0 _ _ l1 t330 true _ ?side1 ?side2 A21.out).mono ?_); (case side1 => repeat (first | exact (Kd.C_below HR1.out HB.out) | (with_reducible refine Kd.C_alloc ?_ _) | (with_reducible refine Kd.C_drewN ?_ _) | (with_reducible refine Kd.C_drew ?_))); (case side2 => exact HC1.out); rintro e w24 ⟨rfl, hb⟩; refine ⟨_, rfl, ?_⟩; have n0_ := Aside0.mk (below_step (by repeat (first | (with_reducible first | exact HB.out | apply below_alloc | apply pw_below_drewN | apply below_drew1) | exact HB.out)) hb); clear HB; have HB := n0_; clear n0_; (try clear hb); (try clear hb2); (try clear hk); (try clear hi)))
                      go_ret
                      exact ⟨by first | rfl | (simp [errW_none, errW_some] <;> rfl) | (simp [*, errW_none, errW_some] <;> rfl), by repeat (first | (with_reducible first | exact HB.out | apply below_alloc | apply pw_below_drewN | apply below_drew1) | exact HB.out)⟩
                    · rw [if_neg c23] at H
                      have c23b0 : decide (a2 ≤ t330) = false := decide_eq_false c23
                      clear c23
                      obtain rfl := Option.some.inj H
                      go_wp2_with (first | ((with_reducible refine gate_callee (f := 26) rfl ?_); refine goesL_ (some 66) rfl rfl Try.func26 (by kernel_rfl) rfl #[.int .i64 a0, .slice A1 l1.length c1] rfl (by (try simp only [List.map_toArray, List.map_cons, List.map_nil]); first | done | rfl | (simp only [List.length_drop, List.length_take]; rfl)) ?_; (with_reducible refine (trim_Middle.calls k2 a0 _ _ l1 t330 true _ ?side1 ?side2 A21.out).mono ?_); (case side1 => repeat (first | exact (Kd.C_below HR1.out HB.out) | (with_reducible refine Kd.C_alloc ?_ _) | (with_reducible refine Kd.C_drewN ?_ _) | (with_reducible refine Kd.C_drew ?_))); (case side2 => exact HC1.out); rintro e w25 ⟨rfl, hb⟩; refine ⟨_, rfl, ?_⟩; have n0_ := Aside0.mk (below_step (by repeat (first | (with_reducible first | exact HB.out | apply below_alloc | apply pw_below_drewN | apply below_drew1) | exact HB.out)) hb); clear HB; have HB := n0_; clear n0_; (try clear hb); (try clear hb2); (try clear hk); (try clear hi)))
                      go_ret
                      exact ⟨by first | rfl | (simp [errW_none, errW_some] <;> rfl) | (simp [*, errW_none, errW_some] <;> rfl), by repeat (first | (with_reducible first | exact HB.out | apply below_alloc | apply pw_below_drewN | apply below_drew1) | exact HB.out)⟩
                  · replace c22 := Bool.eq_false_iff.mpr c22
                    subst c22
                    have H1 : (some false) = some r := by rw [if_neg (show ¬ (false = true) by decide)] at H; exact H
                    clear H
                    have H := H1
                    clear H1
                    obtain rfl := Option.some.inj H
                    go_wp2_with (first | ((with_reducible refine gate_callee (f := 26) rfl ?_); refine goesL_ (some 66) rfl rfl Try.func26 (by kernel_rfl) rfl #[.int .i64 a0, .slice A1 l1.length c1] rfl (by (try simp only [List.map_toArray, List.map_cons, List.map_nil]); first | done | rfl | (simp only [List.length_drop, List.length_take]; rfl)) ?_; (with_reducible refine (trim_Middle.calls k2 a0 _ _ l1 t330 false _ ?side1 ?side2 A21.out).mono ?_); (case side1 => repeat (first | exact (Kd.C_below HR1.out HB.out) | (with_reducible refine Kd.C_alloc ?_ _) | (with_reducible refine Kd.C_drewN ?_ _) | (with_reducible refine Kd.C_drew ?_))); (case side2 => exact HC1.out); rintro e w26 ⟨rfl, hb⟩; refine ⟨_, rfl, ?_⟩; have n0_ := Aside0.mk (below_step (by repeat (first | (with_reducible first | exact HB.out | apply below_alloc | apply pw_below_drewN | apply below_drew1) | exact HB.out)) hb); clear HB; have HB := n0_; clear n0_; (try clear hb); (try clear hb2); (try clear hk); (try clear hi)))
                    go_ret
                    exact ⟨by first | rfl | (simp [errW_none, errW_some] <;> rfl) | (simp [*, errW_none, errW_some] <;> rfl), by repeat (first | (with_reducible first | exact HB.out | apply below_alloc | apply pw_below_drewN | apply below_drew1) | exact HB.out)⟩
  · replace c6 := Bool.eq_false_iff.mpr c6
    subst c6
    have H1 : (some false) = some r := by rw [if_neg (show ¬ (false = true) by decide)] at H; exact H
    clear H
    have H := H1
    clear H1
    obtain rfl := Option.some.inj H
    go_enter Try.func10, Try.ntmps10
    go_wp2_with (first | ((with_reducible refine gate_callee (f := 30) rfl ?_); refine goesL_ (some 14) rfl rfl Try.func30 (by kernel_rfl) rfl #[] rfl (by (try simp only [List.map_toArray, List.map_cons, List.map_nil]); first | done | rfl | (simp only [List.length_drop, List.length_take]; rfl)) ?_; (with_reducible refine (clepsydralaw07_alive.calls k  false _ A5.out).mono ?_); rintro e w27 ⟨rfl, hb⟩; refine ⟨_, rfl, ?_⟩; have n0_ := Aside0.mk (below_step (by repeat (first | (with_reducible first | exact HB.out | apply below_alloc | apply pw_below_drewN | apply below_drew1) | exact HB.out)) hb); clear HB; have HB := n0_; clear n0_; (try clear hb); (try clear hb2); (try clear hk); (try clear hi)))
    go_ret
    exact ⟨by first | rfl | (simp [errW_none, errW_some] <;> rfl) | (simp [*, errW_none, errW_some] <;> rfl), by repeat (first | (with_reducible first | exact HB.out | apply below_alloc | apply pw_below_drewN | apply below_drew1) | exact HB.out)⟩

/-! ### clepsydralaw07_TrimOrders: function 11 -/
mutual
def clepsydralaw07_TrimOrders.j0 : Nat → Int → List Int → List (S38) → Bool → Option (Bool)
  | 0, _, _, _, _ => none
  | k + 1, x0, x1, x2, x32 => if x32 = true then (some true) else (clepsydralaw07_TrimOrders.l0 k x0 x1 x2 ([] : List Int) (wrap64 ((x1.length : Int) - 1)))
def clepsydralaw07_TrimOrders.l0 : Nat → Int → List Int → List (S38) → List Int → Int → Option (Bool)
  | 0, _, _, _, _, _ => none
  | k + 1, x0, x1, x2, x7, x8 => if x8 ≥ 0 then (if 0 ≤ x8 then (if x8 < (x1.length : Int) then (if x7.length < 17592186044416 then (clepsydralaw07_TrimOrders.l0 k x0 x1 x2 (x7 ++ [rd x1 x8]) (wrap64 (x8 - 1))) else (none)) else (none)) else (none)) else (clepsydralaw07_TrimOrders.l1 k x0 x1 x2 x7 ([] : List (S38)) (wrap64 ((x2.length : Int) - 1)))
def clepsydralaw07_TrimOrders.l1 : Nat → Int → List Int → List (S38) → List Int → List (S38) → Int → Option (Bool)
  | 0, _, _, _, _, _, _ => none
  | k + 1, x0, x1, x2, x7, x9, x10 => if x10 ≥ 0 then (if 0 ≤ x10 then (if x10 < (x2.length : Int) then (if x9.length < 8796093022208 then (clepsydralaw07_TrimOrders.l1 k x0 x1 x2 x7 (x9 ++ [(⟨(rd_T38 x2 x10).f0, (rd_T38 x2 x10).f1⟩ : S38)]) (wrap64 (x10 - 1))) else (none)) else (none)) else (none)) else ((trim_Middle.f k x0 x1).bind fun bt341 => ((trim_Middle.f k x0 x7).bind fun bt343 => ((trim_Least.f x0 x1).bind fun bt345 => ((trim_Least.f x0 x7).bind fun bt347 => ((trim_Fuse.f k x0 x2).bind fun bt349 => ((trim_Fuse.f k x0 x9).bind fun bt353 => (if bt341.1 = bt343.1 then (if (bt341.2 == bt343.2) = true then (if bt345.1 = bt347.1 then (if (bt345.2 == bt347.2) = true then (if (bt349.1 == bt353.1 && (bt349.2.1 == bt353.2.1)) = true then (some (bt349.2.2 == bt353.2.2)) else (some false)) else (some false)) else (some false)) else (some false)) else (some false))))))))
end
def clepsydralaw07_TrimOrders.f (k : Nat) (a0 : Int) (l1 : List Int) (l2 : List (S38)) : Option (Bool) := (clepsydralaw07_alive.f k).bind fun t332 => (if t332 = true then (if (l1.length : Int) > 256 then (clepsydralaw07_TrimOrders.j0 k a0 l1 l2 true) else (clepsydralaw07_TrimOrders.j0 k a0 l1 l2 (decide ((l2.length : Int) > 256)))) else (some false))
theorem clepsydralaw07_TrimOrders.mono_l : ∀ k, (∀ y0 y1 y2 y3, LeO (clepsydralaw07_TrimOrders.j0 k y0 y1 y2 y3) (clepsydralaw07_TrimOrders.j0 (k + 1) y0 y1 y2 y3)) ∧ (∀ y0 y1 y2 y3 y4, LeO (clepsydralaw07_TrimOrders.l0 k y0 y1 y2 y3 y4) (clepsydralaw07_TrimOrders.l0 (k + 1) y0 y1 y2 y3 y4)) ∧ (∀ y0 y1 y2 y3 y4 y5, LeO (clepsydralaw07_TrimOrders.l1 k y0 y1 y2 y3 y4 y5) (clepsydralaw07_TrimOrders.l1 (k + 1) y0 y1 y2 y3 y4 y5))
  | 0 => ⟨fun _ _ _ _ r h => by simp [clepsydralaw07_TrimOrders.j0] at h, fun _ _ _ _ _ r h => by simp [clepsydralaw07_TrimOrders.l0] at h, fun _ _ _ _ _ _ r h => by simp [clepsydralaw07_TrimOrders.l1] at h⟩
  | k + 1 => by
    obtain ⟨ih0, ih1, ih2⟩ := clepsydralaw07_TrimOrders.mono_l k
    refine ⟨?_, ?_, ?_⟩
    · intro y0 y1 y2 y3
      unfold clepsydralaw07_TrimOrders.j0
      repeat' first
      | (with_reducible exact ih0 _ _ _ _)
      | (with_reducible exact ih1 _ _ _ _ _)
      | (with_reducible exact ih2 _ _ _ _ _ _)
      | (with_reducible exact clepsydralaw07_alive.mono _)
      | (with_reducible exact trim_Fuse.mono _ _ _)
      | (with_reducible exact trim_Middle.mono _ _ _)
      | (with_reducible exact LeO.refl _)
      | (with_reducible exact LeO.none _)
      | (with_reducible refine LeO.ite ?_ ?_)
      | (with_reducible refine LeO.bind ?_ (fun _ => ?_))
      | exact ih0 _ _ _ _
      | exact ih1 _ _ _ _ _
      | exact ih2 _ _ _ _ _ _
      | exact clepsydralaw07_alive.mono _
      | exact trim_Fuse.mono _ _ _
      | exact trim_Middle.mono _ _ _
      | exact LeO.none _
      | refine LeO.ite ?_ ?_
      | refine LeO.bind ?_ (fun _ => ?_)
    · intro y0 y1 y2 y3 y4
      unfold clepsydralaw07_TrimOrders.l0
      repeat' first
      | (with_reducible exact ih0 _ _ _ _)
      | (with_reducible exact ih1 _ _ _ _ _)
      | (with_reducible exact ih2 _ _ _ _ _ _)
      | (with_reducible exact clepsydralaw07_alive.mono _)
      | (with_reducible exact trim_Fuse.mono _ _ _)
      | (with_reducible exact trim_Middle.mono _ _ _)
      | (with_reducible exact LeO.refl _)
      | (with_reducible exact LeO.none _)
      | (with_reducible refine LeO.ite ?_ ?_)
      | (with_reducible refine LeO.bind ?_ (fun _ => ?_))
      | exact ih0 _ _ _ _
      | exact ih1 _ _ _ _ _
      | exact ih2 _ _ _ _ _ _
      | exact clepsydralaw07_alive.mono _
      | exact trim_Fuse.mono _ _ _
      | exact trim_Middle.mono _ _ _
      | exact LeO.none _
      | refine LeO.ite ?_ ?_
      | refine LeO.bind ?_ (fun _ => ?_)
    · intro y0 y1 y2 y3 y4 y5
      unfold clepsydralaw07_TrimOrders.l1
      repeat' first
      | (with_reducible exact ih0 _ _ _ _)
      | (with_reducible exact ih1 _ _ _ _ _)
      | (with_reducible exact ih2 _ _ _ _ _ _)
      | (with_reducible exact clepsydralaw07_alive.mono _)
      | (with_reducible exact trim_Fuse.mono _ _ _)
      | (with_reducible exact trim_Middle.mono _ _ _)
      | (with_reducible exact LeO.refl _)
      | (with_reducible exact LeO.none _)
      | (with_reducible refine LeO.ite ?_ ?_)
      | (with_reducible refine LeO.bind ?_ (fun _ => ?_))
      | exact ih0 _ _ _ _
      | exact ih1 _ _ _ _ _
      | exact ih2 _ _ _ _ _ _
      | exact clepsydralaw07_alive.mono _
      | exact trim_Fuse.mono _ _ _
      | exact trim_Middle.mono _ _ _
      | exact LeO.none _
      | refine LeO.ite ?_ ?_
      | refine LeO.bind ?_ (fun _ => ?_)
theorem clepsydralaw07_TrimOrders.mono : ∀ a0 a1 a2 k, LeO (clepsydralaw07_TrimOrders.f k a0 a1 a2) (clepsydralaw07_TrimOrders.f (k + 1) a0 a1 a2) := by
  intro a0 a1 a2 k
  obtain ⟨ih0, ih1, ih2⟩ := clepsydralaw07_TrimOrders.mono_l k
  unfold clepsydralaw07_TrimOrders.f
  repeat' first
      | (with_reducible exact ih0 _ _ _ _)
      | (with_reducible exact ih1 _ _ _ _ _)
      | (with_reducible exact ih2 _ _ _ _ _ _)
      | (with_reducible exact clepsydralaw07_alive.mono _)
      | (with_reducible exact trim_Fuse.mono _ _ _)
      | (with_reducible exact trim_Middle.mono _ _ _)
      | (with_reducible exact LeO.refl _)
      | (with_reducible exact LeO.none _)
      | (with_reducible refine LeO.ite ?_ ?_)
      | (with_reducible refine LeO.bind ?_ (fun _ => ?_))
      | exact ih0 _ _ _ _
      | exact ih1 _ _ _ _ _
      | exact ih2 _ _ _ _ _ _
      | exact clepsydralaw07_alive.mono _
      | exact trim_Fuse.mono _ _ _
      | exact trim_Middle.mono _ _ _
      | exact LeO.none _
      | refine LeO.ite ?_ ?_
      | refine LeO.bind ?_ (fun _ => ?_)
set_option maxHeartbeats 8000000 in
set_option maxRecDepth 100000 in
theorem clepsydralaw07_TrimOrders.calls (k : Nat) (a0 : Int) (A1 : Option Addr) (c1 : Nat) (l1 : List Int) (A2 : Option Addr) (c2 : Nat) (l2 : List (S38)) (r : Bool) (w : World) (hr1 : Kd.C (Kd.int .i64) w A1 l1.length l1) (hc1 : l1.length ≤ c1) (hr2 : Kd.C k38 w A2 l2.length l2) (hc2 : l2.length ≤ c2) (h : clepsydralaw07_TrimOrders.f k a0 l1 l2 = some r) :
    Calls Try.prog 11 #[.int .i64 a0, .slice A1 l1.length c1, .slice A2 l2.length c2] w fun e w' => e = .returned (.bool r) ∧ Below w.heap.size w w' := by
  have hu38 := Try.underlying38
  have HR1 := Aside0.mk hr1
  have HC1 := Aside0.mk hc1
  clear hr1 hc1
  have HR2 := Aside0.mk hr2
  have HC2 := Aside0.mk hc2
  clear hr2 hc2
  have HB := Aside0.mk (Below.refl w.heap.size w)
  have H : ((clepsydralaw07_alive.f k).bind fun t332 => (if t332 = true then (if (l1.length : Int) > 256 then (clepsydralaw07_TrimOrders.j0 k a0 l1 l2 true) else (clepsydralaw07_TrimOrders.j0 k a0 l1 l2 (decide ((l2.length : Int) > 256)))) else (some false))) = some r := h
  clear h
  replace H := Option.bind_eq_some_iff.mp H
  obtain ⟨t332, A40, H⟩ := H
  replace H : (if t332 = true then (if (l1.length : Int) > 256 then (clepsydralaw07_TrimOrders.j0 k a0 l1 l2 true) else (clepsydralaw07_TrimOrders.j0 k a0 l1 l2 (decide ((l2.length : Int) > 256)))) else (some false)) = some r := H
  have A4 := Aside0.mk A40
  clear A40
  by_cases c5 : t332 = true
  · subst c5
    have H1 : (if (l1.length : Int) > 256 then (clepsydralaw07_TrimOrders.j0 k a0 l1 l2 true) else (clepsydralaw07_TrimOrders.j0 k a0 l1 l2 (decide ((l2.length : Int) > 256)))) = some r := by rw [if_pos rfl] at H; exact H
    clear H
    have H := H1
    clear H1
    have HC6 := Aside0.mk H
    clear H
    go_enter Try.func11, Try.ntmps11
    go_upto_region 3 with (first | ((with_reducible refine gate_callee (f := 30) rfl ?_); refine goesL_ (some 23) rfl rfl Try.func30 (by kernel_rfl) rfl #[] rfl (by (try simp only [List.map_toArray, List.map_cons, List.map_nil]); first | done | rfl | (simp only [List.length_drop, List.length_take]; rfl)) ?_; (with_reducible refine (clepsydralaw07_alive.calls k  true _ A4.out).mono ?_); rintro e w7 ⟨rfl, hb⟩; refine ⟨_, rfl, ?_⟩; have n0_ := Aside0.mk (below_step (by repeat (first | (with_reducible first | exact HB.out | apply below_alloc | apply pw_below_drewN | apply below_drew1) | exact HB.out)) hb); clear HB; have HB := n0_; clear n0_; (try clear hb); (try clear hb2); (try clear hk); (try clear hi)))
    (try simp only [Act.put, List.setIfInBounds_toArray, List.set_cons_zero, List.set_cons_succ])
    go_cut [32] (fun v32 wc => ∃ (kq : Nat) (x32_5 : Bool), v32 = .bool x32_5 ∧ Aside0 (clepsydralaw07_TrimOrders.j0 kq a0 l1 l2 x32_5 = some r) ∧ Aside0 (kq ≤ k) ∧ Aside0 (Below w.heap.size w wc))
    case first =>
      have H := HC6.out
      clear HC6
      by_cases c8 : (l1.length : Int) > 256
      · rw [if_pos c8] at H
        have c8b0 : decide (256 < (l1.length : Int)) = true := decide_eq_true c8
        have c8b1 : decide (256 < l1.length) = true := decide_eq_true (by omega)
        clear c8
        (first | rw [c8b0] | (simp only [i64_w, i32_w]; rw [c8b0]) | skip)
        have H' := Aside0.mk H
        clear H
        go_wp2
        go_meet
        case rel => exact ⟨_, (true), (by first | rfl | (simp; done) | (simp [*]; done)), H', ⟨by first | omega | exact Nat.le_refl _⟩, ⟨by repeat (first | (with_reducible first | exact HB.out | apply below_alloc | apply pw_below_drewN | apply below_drew1) | exact HB.out)⟩⟩
      · rw [if_neg c8] at H
        have c8b0 : decide (256 < (l1.length : Int)) = false := decide_eq_false c8
        have c8b1 : decide (256 < l1.length) = false := decide_eq_false (by omega)
        clear c8
        (first | rw [c8b0] | (simp only [i64_w, i32_w]; rw [c8b0]) | skip)
        have H' := Aside0.mk H
        clear H
        go_wp2
        go_meet
        case rel => exact ⟨_, (decide ((l2.length : Int) > 256)), (by first | rfl | (simp; done) | (simp [*]; done)), H', ⟨by first | omega | exact Nat.le_refl _⟩, ⟨by repeat (first | (with_reducible first | exact HB.out | apply below_alloc | apply pw_below_drewN | apply below_drew1) | exact HB.out)⟩⟩
    case rest =>
      clear HC6
      try clear c1
      try clear c2
      try clear p2
      try clear c3
      try clear c5
      try clear c8
      try clear c8b0
      try clear c8b1
      obtain ⟨kq, x32_5, rfl, HA, HJ5, HB⟩ := hcut
      cases kq with
      | zero => exact absurd HA.out (by simp [clepsydralaw07_TrimOrders.j0])
      | succ kj5 =>
        have H := HA.out
        clear HA
        simp only [clepsydralaw07_TrimOrders.j0] at H
        by_cases c9 : x32_5 = true
        · subst c9
          have H1 : (some true) = some r := by rw [if_pos rfl] at H; exact H
          clear H
          have H := H1
          clear H1
          obtain rfl := Option.some.inj H
          go_wp2
          go_ret
          exact ⟨by first | rfl | (simp [errW_none, errW_some] <;> rfl) | (simp [*, errW_none, errW_some] <;> rfl), by repeat (first | (with_reducible first | exact HB.out | apply below_alloc | apply pw_below_drewN | apply below_drew1) | exact HB.out)⟩
        · replace c9 := Bool.eq_false_iff.mpr c9
          subst c9
          have H1 : (clepsydralaw07_TrimOrders.l0 kj5 a0 l1 l2 ([] : List Int) (wrap64 ((l1.length : Int) - 1))) = some r := by rw [if_neg (show ¬ (false = true) by decide)] at H; exact H
          clear H
          have H := H1
          clear H1
          have H' := Aside0.mk H
          clear H
          go_wp2
          go_loopg [7, 8] kj5 (fun kq v7 v8 w' => ∃ (x7_2 : List Int) (x8_2 : Int), v8 = .int .i64 x8_2 ∧ Aside0 (clepsydralaw07_TrimOrders.l0 kq a0 l1 l2 x7_2 x8_2 = some r) ∧ Aside0 (kq ≤ kj5) ∧ Aside0 (Kd.R (Kd.int .i64) 3 w' w.heap.size (fun _ => True) v7 x7_2) ∧ Aside0 (Below w.heap.size w w'))
          case atStart => exact ⟨(([] : List Int)), (wrap64 ((l1.length : Int) - 1)), (by first | rfl | (simp; done) | (simp [*]; done)), H', ⟨Nat.le_refl _⟩, ⟨by first | exact Kd.R_nil _ _ _ _ _ | exact Kd.N_nil _ _ _ _ _ | exact Kd.V_nil _ _ _ _ _ | exact Kd.Q_nil _ _ _ _ _ | exact Kd.S_nil _ _ _ _ _⟩, ⟨by repeat (first | (with_reducible first | exact HB.out | apply below_alloc | apply pw_below_drewN | apply below_drew1) | exact HB.out)⟩⟩
          case round =>
            clear H'
            try clear c1
            try clear c2
            try clear p2
            try clear c3
            try clear c5
            try clear p6
            try clear c8
            try clear c8b0
            try clear c8b1
            try clear c9
            try clear p2
            obtain ⟨x7_2, x8_2, rfl, HA, HK2, HO_7, HB⟩ := hrel
            cases gk with
            | zero => exact absurd HA.out (by simp [clepsydralaw07_TrimOrders.l0])
            | succ k2 =>
              have H := HA.out
              clear HA
              simp only [clepsydralaw07_TrimOrders.l0] at H
              by_cases c10 : x8_2 ≥ 0
              · rw [if_pos c10] at H
                have c10b0 : decide (0 ≤ x8_2) = true := decide_eq_true c10
                clear c10
                by_cases c11 : 0 ≤ x8_2
                · rw [if_pos c11] at H
                  have c11b0 : decide (0 ≤ x8_2) = true := decide_eq_true c11
                  clear c11
                  by_cases c12 : x8_2 < (l1.length : Int)
                  · rw [if_pos c12] at H
                    have c12b0 : decide (x8_2 < (l1.length : Int)) = true := decide_eq_true c12
                    clear c12
                    by_cases c13 : x7_2.length < 17592186044416
                    · rw [if_pos c13] at H
                      have LMc13 := Aside0.mk c13
                      clear c13
                      obtain ⟨y334, hy334⟩ : ∃ y_ : List Int, y_ = (x7_2 ++ [rd l1 x8_2]) := ⟨_, rfl⟩
                      replace H : (clepsydralaw07_TrimOrders.l0 k2 a0 l1 l2 y334 (wrap64 (x8_2 - 1))) = some r := by first | (rw [hy334]; with_reducible exact H) | (have H2_ := (Option.bind_some _ _).symm.trans H; rw [hy334]; with_reducible exact H2_) | (have H2_ := (Option.bind_some _ _).symm.trans H; with_reducible exact H2_) | with_reducible exact H | (rw [hy334]; exact H) | exact H
                      have Ny334 := Aside0.mk hy334
                      clear hy334
                      have H' := Aside0.mk H
                      clear H
                      have p333 : 0 ≤ (x8_2 : Int) := of_decide_eq_true (by first | (with_reducible assumption) | assumption)
                      have q333 : x8_2 < (l1.length : Int) := of_decide_eq_true (by first | (with_reducible assumption) | assumption)
                      obtain ⟨ad333, e333, hx333_0⟩ := Kd.at_int HR1.out x8_2 p333 q333
                      cases e333
                      replace hx333_0 := (HB.out.cell (World.block_lt_of_cell? w _ hx333_0)).trans hx333_0
                      replace p333 := eq_true p333
                      replace q333 := eq_true q333
                      go_wp2_with (first | ((with_reducible refine gate_builtin (b := .append) (xs := #[.tmp 40, .tmp 45]) rfl ?_); (try (refine gate_guard (by rfl) ?_; dsimp only)); at_builtin; refine Kd.R_append (Kd.int .i64) (w0 := w) w.heap.size rfl (.tmp 40) (.tmp 45) 22 3 (.int .i64 0) 8 rfl Try.underlying22 info3 rfl (by decide) (by omega) u7 x7_2 (rd l1 x8_2) [.int .i64 (rd l1 x8_2)] (fun _ => True) (fun _ => False) rfl rfl ?aP (fun _ hk => hk.elim) ?aF ?aO ?aB ?aS ?aL ?_; (case aP => exact rfl); (case aB => exact (by repeat (first | (with_reducible first | exact HB.out | apply below_alloc | apply pw_below_drewN | apply below_drew1) | exact HB.out))); (case aF => exact (fun _ _ => trivial)); (case aO => exact (by (with_reducible repeat (first | apply Kd.R_alloc | apply Kd.R_drewN | apply Kd.R_drew)); exact HO_7.out)); (case aS => exact (below_size (by repeat (first | (with_reducible first | exact HB.out | apply below_alloc | apply pw_below_drewN | apply below_drew1) | exact HB.out)))); (case aL => have := LMc13.out; omega); intro v335 w14 ho hb hg hat; rw [← Ny334.out] at ho; have n0_ := Aside0.mk (hb); have n1_ := Aside0.mk (ho); clear HB; clear HO_7; have HB := n0_; have HO336 := n1_; clear n0_ n1_; clear ho hb hg hat))
                      go_roundg k2
                      case measure => have := HJ5.out; have := HK2.out; omega
                      case rel => exact ⟨(y334), (wrap64 (x8_2 - 1)), (by first | rfl | (simp; done) | (simp [*]; done)), H', ⟨by have := HJ5.out; have := HK2.out; omega⟩, ⟨by (with_reducible repeat (first | apply Kd.R_alloc | apply Kd.R_drewN | apply Kd.R_drew)); exact HO336.out⟩, ⟨by repeat (first | (with_reducible first | exact HB.out | apply below_alloc | apply pw_below_drewN | apply below_drew1) | exact HB.out)⟩⟩
                    · rw [if_neg c13] at H
                      exact absurd H (by simp)
                  · rw [if_neg c12] at H
                    exact absurd H (by simp)
                · rw [if_neg c11] at H
                  exact absurd H (by simp)
              · rw [if_neg c10] at H
                have c10b0 : decide (0 ≤ x8_2) = false := decide_eq_false c10
                clear c10
                have H' := Aside0.mk H
                clear H
                go_wp2
                go_loopg [9, 10] k2 (fun kq v9 v10 w' => ∃ (x9_3 : List (S38)) (x10_3 : Int), v10 = .int .i64 x10_3 ∧ Aside0 (clepsydralaw07_TrimOrders.l1 kq a0 l1 l2 x7_2 x9_3 x10_3 = some r) ∧ Aside0 (kq ≤ k2) ∧ Aside0 (Kd.R (Kd.int .i64) 3 w' w.heap.size (fun _ => True) u7 x7_2) ∧ Aside0 (Kd.R k38 38 w' w.heap.size (fun _ => True) v9 x9_3) ∧ Aside0 (Below w.heap.size w w'))
                case atStart => exact ⟨(([] : List (S38))), (wrap64 ((l2.length : Int) - 1)), (by first | rfl | (simp; done) | (simp [*]; done)), H', ⟨Nat.le_refl _⟩, ⟨by (with_reducible repeat (first | apply Kd.R_alloc | apply Kd.R_drewN | apply Kd.R_drew)); exact HO_7.out⟩, ⟨by first | exact Kd.R_nil _ _ _ _ _ | exact Kd.N_nil _ _ _ _ _ | exact Kd.V_nil _ _ _ _ _ | exact Kd.Q_nil _ _ _ _ _ | exact Kd.S_nil _ _ _ _ _⟩, ⟨by repeat (first | (with_reducible first | exact HB.out | apply below_alloc | apply pw_below_drewN | apply below_drew1) | exact HB.out)⟩⟩
                case round =>
                  clear H'
                  try clear c1
                  try clear c2
                  try clear p2
                  try clear c3
                  try clear p3
                  try clear q3
                  try clear hx3
                  try clear c5
                  try clear p6
                  try clear c8
                  try clear c8b0
                  try clear c8b1
                  try clear c9
                  try clear c10
                  try clear c10b0
                  try clear c11
                  try clear c11b0
                  try clear c12
                  try clear c12b0
                  try clear c13
                  try clear hx333_0
                  try clear p2
                  try clear p333
                  try clear p6
                  try clear q333
                  obtain ⟨x9_3, x10_3, rfl, HA, HK3, HO_7, HO_9, HB⟩ := hrel
                  cases gk with
                  | zero => exact absurd HA.out (by simp [clepsydralaw07_TrimOrders.l1])
                  | succ k3 =>
                    have H := HA.out
                    clear HA
                    simp only [clepsydralaw07_TrimOrders.l1] at H
                    by_cases c15 : x10_3 ≥ 0
                    · rw [if_pos c15] at H
                      have c15b0 : decide (0 ≤ x10_3) = true := decide_eq_true c15
                      clear c15
                      by_cases c16 : 0 ≤ x10_3
                      · rw [if_pos c16] at H
                        have c16b0 : decide (0 ≤ x10_3) = true := decide_eq_true c16
                        clear c16
                        by_cases c17 : x10_3 < (l2.length : Int)
                        · rw [if_pos c17] at H
                          have c17b0 : decide (x10_3 < (l2.length : Int)) = true := decide_eq_true c17
                          clear c17
                          by_cases c18 : x9_3.length < 8796093022208
                          · rw [if_pos c18] at H
                            have LMc18 := Aside0.mk c18
                            clear c18
                            obtain ⟨y338, hy338⟩ : ∃ y_ : List (S38), y_ = (x9_3 ++ [(⟨(rd_T38 l2 x10_3).f0, (rd_T38 l2 x10_3).f1⟩ : S38)]) := ⟨_, rfl⟩
                            replace H : (clepsydralaw07_TrimOrders.l1 k3 a0 l1 l2 x7_2 y338 (wrap64 (x10_3 - 1))) = some r := by first | (rw [hy338]; with_reducible exact H) | (have H2_ := (Option.bind_some _ _).symm.trans H; rw [hy338]; with_reducible exact H2_) | (have H2_ := (Option.bind_some _ _).symm.trans H; with_reducible exact H2_) | with_reducible exact H | (rw [hy338]; exact H) | exact H
                            have Ny338 := Aside0.mk hy338
                            clear hy338
                            have H' := Aside0.mk H
                            clear H
                            have p337 : 0 ≤ (x10_3 : Int) := of_decide_eq_true (by first | (with_reducible assumption) | assumption)
                            have q337 : x10_3 < (l2.length : Int) := of_decide_eq_true (by first | (with_reducible assumption) | assumption)
                            obtain ⟨ad337, e337, hx337_0, hx337_1⟩ := at_T38 HR2.out x10_3 p337 q337
                            cases e337
                            replace hx337_0 := (HB.out.cell (World.block_lt_of_cell? w _ hx337_0)).trans hx337_0
                            replace hx337_1 := (HB.out.cell (World.block_lt_of_cell? w _ hx337_1)).trans hx337_1
                            replace p337 := eq_true p337
                            replace q337 := eq_true q337
                            go_wp2_with (first | ((with_reducible refine gate_builtin (b := .append) (xs := #[.tmp 54, .tmp 59]) rfl ?_); (try (refine gate_guard (by rfl) ?_; dsimp only)); at_builtin; refine Kd.R_append k38 (w0 := w) w.heap.size rfl (.tmp 54) (.tmp 59) 36 38 (.agg #[(.int .i64 0), (.int .i64 0)]) 16 rfl Try.underlying36 info38 rfl (by decide) (by omega) u9 x9_3 (⟨(rd_T38 l2 x10_3).f0, (rd_T38 l2 x10_3).f1⟩ : S38) [.int .i64 ((rd_T38 l2 x10_3).f0), .int .i64 ((rd_T38 l2 x10_3).f1)] (fun _ => True) (fun _ => False) rfl rfl ?aP (fun _ hk => hk.elim) ?aF ?aO ?aB ?aS ?aL ?_; (case aP => exact k38_mkM _ _ _ (⟨(rd_T38 l2 x10_3).f0, (rd_T38 l2 x10_3).f1⟩ : S38)); (case aB => exact (by repeat (first | (with_reducible first | exact HB.out | apply below_alloc | apply pw_below_drewN | apply below_drew1) | exact HB.out))); (case aF => exact (fun _ _ => trivial)); (case aO => exact (by (with_reducible repeat (first | apply Kd.R_alloc | apply Kd.R_drewN | apply Kd.R_drew)); exact HO_9.out)); (case aS => exact (below_size (by repeat (first | (with_reducible first | exact HB.out | apply below_alloc | apply pw_below_drewN | apply below_drew1) | exact HB.out)))); (case aL => have := LMc18.out; omega); intro v339 w19 ho hb hg hat; rw [← Ny338.out] at ho; have n0_ := Aside0.mk (Kd.R_over' (by (with_reducible repeat (first | apply Kd.R_alloc | apply Kd.R_drewN | apply Kd.R_drew)); exact HO_7.out) (Kd.R_typed (by (with_reducible repeat (first | apply Kd.R_alloc | apply Kd.R_drewN | apply Kd.R_drew)); exact HO_9.out)) (by decide) hg); have n1_ := Aside0.mk (hb); have n2_ := Aside0.mk (ho); clear HO_7; clear HB; clear HO_9; have HO_7 := n0_; have HB := n1_; have HO340 := n2_; clear n0_ n1_ n2_; clear ho hb hg hat))
                            go_roundg k3
                            case measure => have := HJ5.out; have := HK2.out; have := HK3.out; omega
                            case rel => exact ⟨(y338), (wrap64 (x10_3 - 1)), (by first | rfl | (simp; done) | (simp [*]; done)), H', ⟨by have := HJ5.out; have := HK2.out; have := HK3.out; omega⟩, ⟨by (with_reducible repeat (first | apply Kd.R_alloc | apply Kd.R_drewN | apply Kd.R_drew)); exact HO_7.out⟩, ⟨by (with_reducible repeat (first | apply Kd.R_alloc | apply Kd.R_drewN | apply Kd.R_drew)); exact HO340.out⟩, ⟨by repeat (first | (with_reducible first | exact HB.out | apply below_alloc | apply pw_below_drewN | apply below_drew1) | exact HB.out)⟩⟩
                          · rw [if_neg c18] at H
                            exact absurd H (by simp)
                        · rw [if_neg c17] at H
                          exact absurd H (by simp)
                      · rw [if_neg c16] at H
                        exact absurd H (by simp)
                    · rw [if_neg c15] at H
                      have c15b0 : decide (0 ≤ x10_3) = false := decide_eq_false c15
                      clear c15
                      replace H := Option.bind_eq_some_iff.mp H
                      obtain ⟨⟨t341, t342⟩, A200, H⟩ := H
                      replace H : ((trim_Middle.f k3 a0 x7_2).bind fun bt343 => ((trim_Least.f a0 l1).bind fun bt345 => ((trim_Least.f a0 x7_2).bind fun bt347 => ((trim_Fuse.f k3 a0 l2).bind fun bt349 => ((trim_Fuse.f k3 a0 x9_3).bind fun bt353 => (if t341 = bt343.1 then (if (t342 == bt343.2) = true then (if bt345.1 = bt347.1 then (if (bt345.2 == bt347.2) = true then (if (bt349.1 == bt353.1 && (bt349.2.1 == bt353.2.1)) = true then (some (bt349.2.2 == bt353.2.2)) else (some false)) else (some false)) else (some false)) else (some false)) else (some false))))))) = some r := H
                      have A20 := Aside0.mk A200
                      clear A200
                      replace H := Option.bind_eq_some_iff.mp H
                      obtain ⟨⟨t343, t344⟩, A210, H⟩ := H
                      replace H : ((trim_Least.f a0 l1).bind fun bt345 => ((trim_Least.f a0 x7_2).bind fun bt347 => ((trim_Fuse.f k3 a0 l2).bind fun bt349 => ((trim_Fuse.f k3 a0 x9_3).bind fun bt353 => (if t341 = t343 then (if (t342 == t344) = true then (if bt345.1 = bt347.1 then (if (bt345.2 == bt347.2) = true then (if (bt349.1 == bt353.1 && (bt349.2.1 == bt353.2.1)) = true then (some (bt349.2.2 == bt353.2.2)) else (some false)) else (some false)) else (some false)) else (some false)) else (some false)))))) = some r := H
                      have A21 := Aside0.mk A210
                      clear A210
                      replace H := Option.bind_eq_some_iff.mp H
                      obtain ⟨⟨t345, t346⟩, A220, H⟩ := H
                      replace H : ((trim_Least.f a0 x7_2).bind fun bt347 => ((trim_Fuse.f k3 a0 l2).bind fun bt349 => ((trim_Fuse.f k3 a0 x9_3).bind fun bt353 => (if t341 = t343 then (if (t342 == t344) = true then (if t345 = bt347.1 then (if (t346 == bt347.2) = true then (if (bt349.1 == bt353.1 && (bt349.2.1 == bt353.2.1)) = true then (some (bt349.2.2 == bt353.2.2)) else (some false)) else (some false)) else (some false)) else (some false)) else (some false))))) = some r := H
                      have A22 := Aside0.mk A220
                      clear A220
                      replace H := Option.bind_eq_some_iff.mp H
                      obtain ⟨⟨t347, t348⟩, A230, H⟩ := H
                      replace H : ((trim_Fuse.f k3 a0 l2).bind fun bt349 => ((trim_Fuse.f k3 a0 x9_3).bind fun bt353 => (if t341 = t343 then (if (t342 == t344) = true then (if t345 = t347 then (if (t346 == t348) = true then (if (bt349.1 == bt353.1 && (bt349.2.1 == bt353.2.1)) = true then (some (bt349.2.2 == bt353.2.2)) else (some false)) else (some false)) else (some false)) else (some false)) else (some false)))) = some r := H
                      have A23 := Aside0.mk A230
                      clear A230
                      replace H := Option.bind_eq_some_iff.mp H
                      obtain ⟨⟨t349, t350, t351⟩, A240, H⟩ := H
                      replace H : ((trim_Fuse.f k3 a0 x9_3).bind fun bt353 => (if t341 = t343 then (if (t342 == t344) = true then (if t345 = t347 then (if (t346 == t348) = true then (if (t349 == bt353.1 && (t350 == bt353.2.1)) = true then (some (t351 == bt353.2.2)) else (some false)) else (some false)) else (some false)) else (some false)) else (some false))) = some r := H
                      have A24 := Aside0.mk A240
                      clear A240
                      replace H := Option.bind_eq_some_iff.mp H
                      obtain ⟨⟨t353, t354, t355⟩, A250, H⟩ := H
                      replace H : (if t341 = t343 then (if (t342 == t344) = true then (if t345 = t347 then (if (t346 == t348) = true then (if (t349 == t353 && (t350 == t354)) = true then (some (t351 == t355)) else (some false)) else (some false)) else (some false)) else (some false)) else (some false)) = some r := H
                      have A25 := Aside0.mk A250
                      clear A250
                      by_cases c26 : t341 = t343
                      · rw [if_pos c26] at H
                        have c26b0 : (t341 == t343) = true := beq_iff_eq.mpr c26
                        have c26b1 : (t341 != t343) = false := bne_eq_false_iff_eq.mpr c26
                        clear c26
                        by_cases c27 : (t342 == t344) = true
                        · rw [if_pos c27] at H
                          have c27b0 : (t342 == t344) = true := c27
                          (try (have c27b1 : decide (t342 = t344) = true := by simpa using c27))
                          (try (have c27b2 : (t342 == t344) = true := by simpa using c27))
                          clear c27
                          by_cases c28 : t345 = t347
                          · rw [if_pos c28] at H
                            have c28b0 : (t345 == t347) = true := beq_iff_eq.mpr c28
                            have c28b1 : (t345 != t347) = false := bne_eq_false_iff_eq.mpr c28
                            clear c28
                            by_cases c29 : (t346 == t348) = true
                            · rw [if_pos c29] at H
                              have c29b0 : (t346 == t348) = true := c29
                              (try (have c29b1 : decide (t346 = t348) = true := by simpa using c29))
                              (try (have c29b2 : (t346 == t348) = true := by simpa using c29))
                              clear c29
                              by_cases c30 : (t349 == t353 && (t350 == t354)) = true
                              · rw [if_pos c30] at H
                                have c30b0 : (t349 == t353 && (t350 == t354)) = true := c30
                                (try (have c30b1 : decide (t349 = t353 && (t350 == t354)) = true := by simpa using c30))
                                (try (have c30b2 : (t349 == t353 && (t350 == t354)) = true := by simpa using c30))
                                clear c30
                                obtain rfl := Option.some.inj H
                                go_wp2_with (first | ((with_reducible refine gate_callee (f := 26) rfl ?_); refine goesL_ (some 64) rfl rfl Try.func26 (by kernel_rfl) rfl #[.int .i64 a0, .slice A1 l1.length c1] rfl (by (try simp only [List.map_toArray, List.map_cons, List.map_nil]); first | done | rfl | (simp only [List.length_drop, List.length_take]; rfl)) ?_; (with_reducible refine (trim_Middle.calls k3 a0 _ _ l1 t341 t342 _ ?side1 ?side2 A20.out).mono ?_); (case side1 => repeat (first | exact (Kd.C_below HR1.out HB.out) | (with_reducible refine Kd.C_alloc ?_ _) | (with_reducible refine Kd.C_drewN ?_ _) | (with_reducible refine Kd.C_drew ?_))); (case side2 => exact HC1.out); rintro e w31 ⟨rfl, hb⟩; refine ⟨_, rfl, ?_⟩; have n0_ := Aside0.mk (Kd.R_below (by (with_reducible repeat (first | apply Kd.R_alloc | apply Kd.R_drewN | apply Kd.R_drew)); exact HO_7.out) hb); have n1_ := Aside0.mk (Kd.R_below (by (with_reducible repeat (first | apply Kd.R_alloc | apply Kd.R_drewN | apply Kd.R_drew)); exact HO_9.out) hb); have n2_ := Aside0.mk (below_step (by repeat (first | (with_reducible first | exact HB.out | apply below_alloc | apply pw_below_drewN | apply below_drew1) | exact HB.out)) hb); clear HO_7; clear HO_9; clear HB; have HO_7 := n0_; have HO_9 := n1_; have HB := n2_; clear n0_ n1_ n2_; (try clear hb); (try clear hb2); (try clear hk); (try clear hi); obtain ⟨Ao32, co32, eo32⟩ := Kd.R_slice HO_7.out; subst eo32) | ((with_reducible refine gate_callee (f := 26) rfl ?_); refine goesL_ (some 70) rfl rfl Try.func26 (by kernel_rfl) rfl #[.int .i64 a0, .slice Ao32 x7_2.length co32] rfl (by (try simp only [List.map_toArray, List.map_cons, List.map_nil]); first | done | rfl | (simp only [List.length_drop, List.length_take]; rfl)) ?_; (with_reducible refine (trim_Middle.calls k3 a0 _ _ x7_2 t343 t344 _ ?side1 ?side2 A21.out).mono ?_); (case side1 => repeat (first | exact (Kd.R_reads' HO_7.out).2.2 | (with_reducible refine Kd.C_alloc ?_ _) | (with_reducible refine Kd.C_drewN ?_ _) | (with_reducible refine Kd.C_drew ?_))); (case side2 => exact (Kd.R_reads' HO_7.out).2.1); rintro e w33 ⟨rfl, hb⟩; refine ⟨_, rfl, ?_⟩; have n0_ := Aside0.mk (Kd.R_below (by (with_reducible repeat (first | apply Kd.R_alloc | apply Kd.R_drewN | apply Kd.R_drew)); exact HO_7.out) hb); have n1_ := Aside0.mk (Kd.R_below (by (with_reducible repeat (first | apply Kd.R_alloc | apply Kd.R_drewN | apply Kd.R_drew)); exact HO_9.out) hb); have n2_ := Aside0.mk (below_step (by repeat (first | (with_reducible first | exact HB.out | apply below_alloc | apply pw_below_drewN | apply below_drew1) | exact HB.out)) hb); clear HO_7; clear HO_9; clear HB; have HO_7 := n0_; have HO_9 := n1_; have HB := n2_; clear n0_ n1_ n2_; (try clear hb); (try clear hb2); (try clear hk); (try clear hi)) | ((with_reducible refine gate_callee (f := 24) rfl ?_); refine goesL_ (some 76) rfl rfl Try.func24 (by kernel_rfl) rfl #[.int .i64 a0, .slice A1 l1.length c1] rfl (by (try simp only [List.map_toArray, List.map_cons, List.map_nil]); first | done | rfl | (simp only [List.length_drop, List.length_take]; rfl)) ?_; (with_reducible refine (trim_Least.calls a0 _ _ l1 t345 t346 _ ?side1 ?side2 A22.out).mono ?_); (case side1 => repeat (first | exact (Kd.C_below HR1.out HB.out) | (with_reducible refine Kd.C_alloc ?_ _) | (with_reducible refine Kd.C_drewN ?_ _) | (with_reducible refine Kd.C_drew ?_))); (case side2 => exact HC1.out); rintro e w34 ⟨rfl, hb⟩; refine ⟨_, rfl, ?_⟩; have n0_ := Aside0.mk (Kd.R_below (by (with_reducible repeat (first | apply Kd.R_alloc | apply Kd.R_drewN | apply Kd.R_drew)); exact HO_7.out) hb); have n1_ := Aside0.mk (Kd.R_below (by (with_reducible repeat (first | apply Kd.R_alloc | apply Kd.R_drewN | apply Kd.R_drew)); exact HO_9.out) hb); have n2_ := Aside0.mk (below_step (by repeat (first | (with_reducible first | exact HB.out | apply below_alloc | apply pw_below_drewN | apply below_drew1) | exact HB.out)) hb); clear HO_7; clear HO_9; clear HB; have HO_7 := n0_; have HO_9 := n1_; have HB := n2_; clear n0_ n1_ n2_; (try clear hb); (try clear hb2); (try clear hk); (try clear hi)) | ((with_reducible refine gate_callee (f := 24) rfl ?_); refine goesL_ (some 82) rfl rfl Try.func24 (by kernel_rfl) rfl #[.int .i64 a0, .slice Ao32 x7_2.length co32] rfl (by (try simp only [List.map_toArray, List.map_cons, List.map_nil]); first | done | rfl | (simp only [List.length_drop, List.length_take]; rfl)) ?_; (with_reducible refine (trim_Least.calls a0 _ _ x7_2 t347 t348 _ ?side1 ?side2 A23.out).mono ?_); (case side1 => repeat (first | exact (Kd.R_reads' HO_7.out).2.2 | (with_reducible refine Kd.C_alloc ?_ _) | (with_reducible refine Kd.C_drewN ?_ _) | (with_reducible refine Kd.C_drew ?_))); (case side2 => exact (Kd.R_reads' HO_7.out).2.1); rintro e w35 ⟨rfl, hb⟩; refine ⟨_, rfl, ?_⟩; have n0_ := Aside0.mk (Kd.R_below (by (with_reducible repeat (first | apply Kd.R_alloc | apply Kd.R_drewN | apply Kd.R_drew)); exact HO_7.out) hb); have n1_ := Aside0.mk (Kd.R_below (by (with_reducible repeat (first | apply Kd.R_alloc | apply Kd.R_drewN | apply Kd.R_drew)); exact HO_9.out) hb); have n2_ := Aside0.mk (below_step (by repeat (first | (with_reducible first | exact HB.out | apply below_alloc | apply pw_below_drewN | apply below_drew1) | exact HB.out)) hb); clear HO_7; clear HO_9; clear HB; have HO_7 := n0_; have HO_9 := n1_; have HB := n2_; clear n0_ n1_ n2_; (try clear hb); (try clear hb2); (try clear hk); (try clear hi)) | ((with_reducible refine gate_callee (f := 31) rfl ?_); refine goesL_ (some 88) rfl rfl Try.func31 (by kernel_rfl) rfl #[.int .i64 a0, .slice A2 l2.length c2] rfl (by (try simp only [List.map_toArray, List.map_cons, List.map_nil]); first | done | rfl | (simp only [List.length_drop, List.length_take]; rfl)) ?_; (with_reducible refine (trim_Fuse.calls k3 a0 _ _ l2 t349 t350 t351 _ ?side1 ?side2 A24.out).mono ?_); (case side1 => repeat (first | exact (Kd.C_below HR2.out HB.out) | (with_reducible refine Kd.C_alloc ?_ _) | (with_reducible refine Kd.C_drewN ?_ _) | (with_reducible refine Kd.C_drew ?_))); (case side2 => exact HC2.out); rintro e w36 ⟨rfl, hb⟩; refine ⟨_, rfl, ?_⟩; have n0_ := Aside0.mk (Kd.R_below (by (with_reducible repeat (first | apply Kd.R_alloc | apply Kd.R_drewN | apply Kd.R_drew)); exact HO_7.out) hb); have n1_ := Aside0.mk (Kd.R_below (by (with_reducible repeat (first | apply Kd.R_alloc | apply Kd.R_drewN | apply Kd.R_drew)); exact HO_9.out) hb); have n2_ := Aside0.mk (below_step (by repeat (first | (with_reducible first | exact HB.out | apply below_alloc | apply pw_below_drewN | apply below_drew1) | exact HB.out)) hb); clear HO_7; clear HO_9; clear HB; have HO_7 := n0_; have HO_9 := n1_; have HB := n2_; clear n0_ n1_ n2_; (try clear hb); (try clear hb2); (try clear hk); (try clear hi)) | ((with_reducible refine gate_dst (N := 19) rfl ?_); (try (refine gate_guard (by rfl) ?_; dsimp only)); refine box_event ?hg (N := 19) ?hd (cs := #[.int .i64 0, .int .i64 0]) (t := 38) ?hr ?_; (case hd => rfl); (case hg => rfl); (case hr => first | (go_simp; done) | (go_simp; rfl)); intro gb352 hg w37 hbox hb; have n0_ := Aside0.mk (Kd.R_below (by (with_reducible repeat (first | apply Kd.R_alloc | apply Kd.R_drewN | apply Kd.R_drew)); exact HO_7.out) hb); have n1_ := Aside0.mk (Kd.R_below (Kd.R_elderB (by (with_reducible repeat (first | apply Kd.R_alloc | apply Kd.R_drewN | apply Kd.R_drew)); exact HO_9.out) gb352 (Nat.le_of_eq hg.symm)) hb); have n2_ := Aside0.mk (below_step (by repeat (first | (with_reducible first | exact HB.out | apply below_alloc | apply pw_below_drewN | apply below_drew1) | exact HB.out)) hb); have n3_ := Aside0.mk (hbox); have n4_ := Aside0.mk ((by rw [hg]; exact (below_size (by repeat (first | (with_reducible first | exact HB.out | apply below_alloc | apply pw_below_drewN | apply below_drew1) | exact HB.out))) : w.heap.size ≤ gb352)); have n5_ := Aside0.mk ((by rw [hg]; exact (below_size (by repeat (first | (with_reducible first | exact HB.out | apply below_alloc | apply pw_below_drewN | apply below_drew1) | exact HB.out))) : w.heap.size ≤ gb352)); clear HO_7; clear HO_9; clear HB; have HO_7 := n0_; have HO_9 := n1_; have HB := n2_; have BK352 := n3_; have GW352 := n4_; have GE352 := n5_; clear n0_ n1_ n2_ n3_ n4_ n5_; clear hb hbox hg; have hcz38_0 : w37.cell? ⟨gb352, 0, none⟩ = some (.int .i64 0) := (blk_cell BK352.out 0).trans rfl; have hcz38_1 : w37.cell? ⟨gb352, 1, none⟩ = some (.int .i64 0) := (blk_cell BK352.out 1).trans rfl; have hfz38_0 := blk_frozen BK352.out 0; have hfz38_1 := blk_frozen BK352.out 1; obtain ⟨Ao39, co39, eo39⟩ := Kd.R_slice HO_9.out; subst eo39) | ((with_reducible refine gate_callee (f := 31) rfl ?_); refine goesL_ (some 94) rfl rfl Try.func31 (by kernel_rfl) rfl #[.int .i64 a0, .slice Ao39 x9_3.length co39] rfl (by (try simp only [List.map_toArray, List.map_cons, List.map_nil]); first | done | rfl | (simp only [List.length_drop, List.length_take]; rfl)) ?_; (with_reducible refine (trim_Fuse.calls k3 a0 _ _ x9_3 t353 t354 t355 _ ?side1 ?side2 A25.out).mono ?_); (case side1 => refine (Kd.R_reads' (e := 38) (base := w.heap.size) (ok := fun k_ => (True ∧ k_ ≠ gb352)) (n := x9_3.length) (c := co39) ?_).2.2; exact (by (with_reducible repeat (first | apply Kd.R_alloc | apply Kd.R_drewN | apply Kd.R_drew)); exact (Kd.R_mono (Kd.R_far (p := ⟨gb352, 1, none⟩) (Kd.R_far (p := ⟨gb352, 0, none⟩) (Kd.R_mono HO_9.out (fun k_ hk => (⟨hk, hk.2⟩ : _ ∧ k_ ≠ gb352))) (fun _ hk => hk.2) (.int .i64 t349)) (fun _ hk => hk.2) (.int .i64 t350)) (fun _ h_ => h_.1)))); (case side2 => exact (Kd.R_reads' HO_9.out).2.1); rintro e w40 ⟨rfl, hb⟩; refine ⟨_, rfl, ?_⟩; have n0_ := Aside0.mk (Kd.R_below (by (with_reducible repeat (first | apply Kd.R_alloc | apply Kd.R_drewN | apply Kd.R_drew)); exact (Kd.R_mono (Kd.R_far (p := ⟨gb352, 1, none⟩) (Kd.R_far (p := ⟨gb352, 0, none⟩) (Kd.R_types HO_7.out BK352.out (by decide)) (fun _ hk => hk.2) (.int .i64 t349)) (fun _ hk => hk.2) (.int .i64 t350)) (fun _ h_ => h_.1))) hb); have n1_ := Aside0.mk (Kd.R_below (by (with_reducible repeat (first | apply Kd.R_alloc | apply Kd.R_drewN | apply Kd.R_drew)); exact (Kd.R_mono (Kd.R_far (p := ⟨gb352, 1, none⟩) (Kd.R_far (p := ⟨gb352, 0, none⟩) (Kd.R_mono HO_9.out (fun k_ hk => (⟨hk, hk.2⟩ : _ ∧ k_ ≠ gb352))) (fun _ hk => hk.2) (.int .i64 t349)) (fun _ hk => hk.2) (.int .i64 t350)) (fun _ h_ => h_.1))) hb); have n2_ := Aside0.mk (blk_below (g := gb352) (o := .cells #[.int .i64 t349, .int .i64 t350] 38 (0, 0)) (by (with_reducible repeat (first | refine blk_drewN ?_ _ | refine blk_drew ?_ | refine blk_alloc ?_ _)); refine blk_put (cs := #[.int .i64 t349, .int .i64 0]) ?_ 1 _ rfl; (with_reducible repeat (first | refine blk_drewN ?_ _ | refine blk_drew ?_ | refine blk_alloc ?_ _)); refine blk_put (cs := #[.int .i64 0, .int .i64 0]) ?_ 0 _ rfl; (with_reducible repeat (first | refine blk_drewN ?_ _ | refine blk_drew ?_ | refine blk_alloc ?_ _)); exact BK352.out) hb); have n3_ := Aside0.mk (below_step (by repeat (first | (with_reducible first | exact HB.out | apply below_alloc | apply pw_below_drewN | apply below_drew1 | refine below_set ?_ GE352.out) | exact HB.out)) hb); clear HO_7; clear HO_9; clear BK352; clear HB; have HO_7 := n0_; have HO_9 := n1_; have BK352 := n2_; have HB := n3_; clear n0_ n1_ n2_ n3_; (try clear hb); (try clear hb2); (try clear hk); (try clear hi)) | ((with_reducible refine gate_dst (N := 21) rfl ?_); (try (refine gate_guard (by rfl) ?_; dsimp only)); refine box_event ?hg (N := 21) ?hd (cs := #[.int .i64 0, .int .i64 0]) (t := 38) ?hr ?_; (case hd => rfl); (case hg => rfl); (case hr => first | (go_simp; done) | (go_simp; rfl)); intro gb356 hg w41 hbox hb; have n0_ := Aside0.mk (Kd.R_below (by (with_reducible repeat (first | apply Kd.R_alloc | apply Kd.R_drewN | apply Kd.R_drew)); exact HO_7.out) hb); have n1_ := Aside0.mk (Kd.R_below (Kd.R_elderB (by (with_reducible repeat (first | apply Kd.R_alloc | apply Kd.R_drewN | apply Kd.R_drew)); exact HO_9.out) gb356 (Nat.le_of_eq hg.symm)) hb); have n2_ := Aside0.mk (blk_below (g := gb352) (o := .cells #[.int .i64 t349, .int .i64 t350] 38 (0, 0)) (by (with_reducible repeat (first | refine blk_drewN ?_ _ | refine blk_drew ?_ | refine blk_alloc ?_ _)); exact BK352.out) hb); have n3_ := Aside0.mk (below_step (by repeat (first | (with_reducible first | exact HB.out | apply below_alloc | apply pw_below_drewN | apply below_drew1 | refine below_set ?_ GE352.out) | exact HB.out)) hb); have n4_ := Aside0.mk (hbox); have n5_ := Aside0.mk ((by rw [hg]; exact (below_size (by repeat (first | (with_reducible first | exact HB.out | apply below_alloc | apply pw_below_drewN | apply below_drew1 | refine below_set ?_ GE352.out) | exact HB.out))) : w.heap.size ≤ gb356)); have n6_ := Aside0.mk ((by rw [hg]; exact (below_size (by repeat (first | (with_reducible first | exact HB.out | apply below_alloc | apply pw_below_drewN | apply below_drew1 | refine below_set ?_ GE352.out) | exact HB.out))) : w.heap.size ≤ gb356)); have n7_ := Aside0.mk ((by rw [hg]; exact Nat.ne_of_lt (blk_lt (g := gb352) (o := .cells #[.int .i64 t349, .int .i64 t350] 38 (0, 0)) (by (with_reducible repeat (first | refine blk_drewN ?_ _ | refine blk_drew ?_ | refine blk_alloc ?_ _)); exact BK352.out)) : gb352 ≠ gb356)); have n8_ := Aside0.mk ((by rw [hg]; exact Nat.ne_of_gt (blk_lt (g := gb352) (o := .cells #[.int .i64 t349, .int .i64 t350] 38 (0, 0)) (by (with_reducible repeat (first | refine blk_drewN ?_ _ | refine blk_drew ?_ | refine blk_alloc ?_ _)); exact BK352.out)) : gb356 ≠ gb352)); clear HO_7; clear HO_9; clear BK352; clear HB; have HO_7 := n0_; have HO_9 := n1_; have BK352 := n2_; have HB := n3_; have BK356 := n4_; have GW356 := n5_; have GE356 := n6_; have NB352_356 := n7_; have NB356_352 := n8_; clear n0_ n1_ n2_ n3_ n4_ n5_ n6_ n7_ n8_; clear hb hbox hg; have hnb42 := NB356_352.out; have hnc42 := NB352_356.out; have hcz43_0 : w41.cell? ⟨gb356, 0, none⟩ = some (.int .i64 0) := (blk_cell BK356.out 0).trans rfl; have hcz43_1 : w41.cell? ⟨gb356, 1, none⟩ = some (.int .i64 0) := (blk_cell BK356.out 1).trans rfl; have hfz43_0 := blk_frozen BK356.out 0; have hfz43_1 := blk_frozen BK356.out 1; have hcz44_0 : w41.cell? ⟨gb352, 0, none⟩ = some (.int .i64 t349) := (blk_cell BK352.out 0).trans rfl; have hcz44_1 : w41.cell? ⟨gb352, 1, none⟩ = some (.int .i64 t350) := (blk_cell BK352.out 1).trans rfl; have hfz44_0 := blk_frozen BK352.out 0; have hfz44_1 := blk_frozen BK352.out 1))
                                go_ret
                                exact ⟨by first | rfl | (simp [errW_none, errW_some] <;> rfl) | (simp [*, errW_none, errW_some] <;> rfl), by repeat (first | (with_reducible first | exact HB.out | apply below_alloc | apply pw_below_drewN | apply below_drew1 | refine below_set ?_ GE352.out | refine below_set ?_ GE356.out) | exact HB.out)⟩
                              · rw [if_neg c30] at H
                                have c30b0 : (t349 == t353 && (t350 == t354)) = false := by simpa using c30
                                (try (have c30b1 : decide (t349 = t353 && (t350 == t354)) = false := by simpa using c30))
                                (try (have c30b2 : (t349 == t353 && (t350 == t354)) = false := by simpa using c30))
                                (try (have c30b3 : ¬ (t349 = t353 && (t350 == t354)) := by simpa using c30))
                                clear c30
                                obtain rfl := Option.some.inj H
                                go_wp2_with (first | ((with_reducible refine gate_callee (f := 26) rfl ?_); refine goesL_ (some 64) rfl rfl Try.func26 (by kernel_rfl) rfl #[.int .i64 a0, .slice A1 l1.length c1] rfl (by (try simp only [List.map_toArray, List.map_cons, List.map_nil]); first | done | rfl | (simp only [List.length_drop, List.length_take]; rfl)) ?_; (with_reducible refine (trim_Middle.calls k3 a0 _ _ l1 t341 t342 _ ?side1 ?side2 A20.out).mono ?_); (case side1 => repeat (first | exact (Kd.C_below HR1.out HB.out) | (with_reducible refine Kd.C_alloc ?_ _) | (with_reducible refine Kd.C_drewN ?_ _) | (with_reducible refine Kd.C_drew ?_))); (case side2 => exact HC1.out); rintro e w45 ⟨rfl, hb⟩; refine ⟨_, rfl, ?_⟩; have n0_ := Aside0.mk (Kd.R_below (by (with_reducible repeat (first | apply Kd.R_alloc | apply Kd.R_drewN | apply Kd.R_drew)); exact HO_7.out) hb); have n1_ := Aside0.mk (Kd.R_below (by (with_reducible repeat (first | apply Kd.R_alloc | apply Kd.R_drewN | apply Kd.R_drew)); exact HO_9.out) hb); have n2_ := Aside0.mk (below_step (by repeat (first | (with_reducible first | exact HB.out | apply below_alloc | apply pw_below_drewN | apply below_drew1) | exact HB.out)) hb); clear HO_7; clear HO_9; clear HB; have HO_7 := n0_; have HO_9 := n1_; have HB := n2_; clear n0_ n1_ n2_; (try clear hb); (try clear hb2); (try clear hk); (try clear hi); obtain ⟨Ao46, co46, eo46⟩ := Kd.R_slice HO_7.out; subst eo46) | ((with_reducible refine gate_callee (f := 26) rfl ?_); refine goesL_ (some 70) rfl rfl Try.func26 (by kernel_rfl) rfl #[.int .i64 a0, .slice Ao46 x7_2.length co46] rfl (by (try simp only [List.map_toArray, List.map_cons, List.map_nil]); first | done | rfl | (simp only [List.length_drop, List.length_take]; rfl)) ?_; (with_reducible refine (trim_Middle.calls k3 a0 _ _ x7_2 t343 t344 _ ?side1 ?side2 A21.out).mono ?_); (case side1 => repeat (first | exact (Kd.R_reads' HO_7.out).2.2 | (with_reducible refine Kd.C_alloc ?_ _) | (with_reducible refine Kd.C_drewN ?_ _) | (with_reducible refine Kd.C_drew ?_))); (case side2 => exact (Kd.R_reads' HO_7.out).2.1); rintro e w47 ⟨rfl, hb⟩; refine ⟨_, rfl, ?_⟩; have n0_ := Aside0.mk (Kd.R_below (by (with_reducible repeat (first | apply Kd.R_alloc | apply Kd.R_drewN | apply Kd.R_drew)); exact HO_7.out) hb); have n1_ := Aside0.mk (Kd.R_below (by (with_reducible repeat (first | apply Kd.R_alloc | apply Kd.R_drewN | apply Kd.R_drew)); exact HO_9.out) hb); have n2_ := Aside0.mk (below_step (by repeat (first | (with_reducible first | exact HB.out | apply below_alloc | apply pw_below_drewN | apply below_drew1) | exact HB.out)) hb); clear HO_7; clear HO_9; clear HB; have HO_7 := n0_; have HO_9 := n1_; have HB := n2_; clear n0_ n1_ n2_; (try clear hb); (try clear hb2); (try clear hk); (try clear hi)) | ((with_reducible refine gate_callee (f := 24) rfl ?_); refine goesL_ (some 76) rfl rfl Try.func24 (by kernel_rfl) rfl #[.int .i64 a0, .slice A1 l1.length c1] rfl (by (try simp only [List.map_toArray, List.map_cons, List.map_nil]); first | done | rfl | (simp only [List.length_drop, List.length_take]; rfl)) ?_; (with_reducible refine (trim_Least.calls a0 _ _ l1 t345 t346 _ ?side1 ?side2 A22.out).mono ?_); (case side1 => repeat (first | exact (Kd.C_below HR1.out HB.out) | (with_reducible refine Kd.C_alloc ?_ _) | (with_reducible refine Kd.C_drewN ?_ _) | (with_reducible refine Kd.C_drew ?_))); (case side2 => exact HC1.out); rintro e w48 ⟨rfl, hb⟩; refine ⟨_, rfl, ?_⟩; have n0_ := Aside0.mk (Kd.R_below (by (with_reducible repeat (first | apply Kd.R_alloc | apply Kd.R_drewN | apply Kd.R_drew)); exact HO_7.out) hb); have n1_ := Aside0.mk (Kd.R_below (by (with_reducible repeat (first | apply Kd.R_alloc | apply Kd.R_drewN | apply Kd.R_drew)); exact HO_9.out) hb); have n2_ := Aside0.mk (below_step (by repeat (first | (with_reducible first | exact HB.out | apply below_alloc | apply pw_below_drewN | apply below_drew1) | exact HB.out)) hb); clear HO_7; clear HO_9; clear HB; have HO_7 := n0_; have HO_9 := n1_; have HB := n2_; clear n0_ n1_ n2_; (try clear hb); (try clear hb2); (try clear hk); (try clear hi)) | ((with_reducible refine gate_callee (f := 24) rfl ?_); refine goesL_ (some 82) rfl rfl Try.func24 (by kernel_rfl) rfl #[.int .i64 a0, .slice Ao46 x7_2.length co46] rfl (by (try simp only [List.map_toArray, List.map_cons, List.map_nil]); first | done | rfl | (simp only [List.length_drop, List.length_take]; rfl)) ?_; (with_reducible refine (trim_Least.calls a0 _ _ x7_2 t347 t348 _ ?side1 ?side2 A23.out).mono ?_); (case side1 => repeat (first | exact (Kd.R_reads' HO_7.out).2.2 | (with_reducible refine Kd.C_alloc ?_ _) | (with_reducible refine Kd.C_drewN ?_ _) | (with_reducible refine Kd.C_drew ?_))); (case side2 => exact (Kd.R_reads' HO_7.out).2.1); rintro e w49 ⟨rfl, hb⟩; refine ⟨_, rfl, ?_⟩; have n0_ := Aside0.mk (Kd.R_below (by (with_reducible repeat (first | apply Kd.R_alloc | apply Kd.R_drewN | apply Kd.R_drew)); exact HO_7.out) hb); have n1_ := Aside0.mk (Kd.R_below (by (with_reducible repeat (first | apply Kd.R_alloc | apply Kd.R_drewN | apply Kd.R_drew)); exact HO_9.out) hb); have n2_ := Aside0.mk (below_step (by repeat (first | (with_reducible first | exact HB.out | apply below_alloc | apply pw_below_drewN | apply below_drew1) | exact HB.out)) hb); clear HO_7; clear HO_9; clear HB; have HO_7 := n0_; have HO_9 := n1_; have HB := n2_; clear n0_ n1_ n2_; (try clear hb); (try clear hb2); (try clear hk); (try clear hi)) | ((with_reducible refine gate_callee (f := 31) rfl ?_); refine goesL_ (some 88) rfl rfl Try.func31 (by kernel_rfl) rfl #[.int .i64 a0, .slice A2 l2.length c2] rfl (by (try simp only [List.map_toArray, List.map_cons, List.map_nil]); first | done | rfl | (simp only [List.length_drop, List.length_take]; rfl)) ?_; (with_reducible refine (trim_Fuse.calls k3 a0 _ _ l2 t349 t350 t351 _ ?side1 ?side2 A24.out).mono ?_); (case side1 => repeat (first | exact (Kd.C_below HR2.out HB.out) | (with_reducible refine Kd.C_alloc ?_ _) | (with_reducible refine Kd.C_drewN ?_ _) | (with_reducible refine Kd.C_drew ?_))); (case side2 => exact HC2.out); rintro e w50 ⟨rfl, hb⟩; refine ⟨_, rfl, ?_⟩; have n0_ := Aside0.mk (Kd.R_below (by (with_reducible repeat (first | apply Kd.R_alloc | apply Kd.R_drewN | apply Kd.R_drew)); exact HO_7.out) hb); have n1_ := Aside0.mk (Kd.R_below (by (with_reducible repeat (first | apply Kd.R_alloc | apply Kd.R_drewN | apply Kd.R_drew)); exact HO_9.out) hb); have n2_ := Aside0.mk (below_step (by repeat (first | (with_reducible first | exact HB.out | apply below_alloc | apply pw_below_drewN | apply below_drew1) | exact HB.out)) hb); clear HO_7; clear HO_9; clear HB; have HO_7 := n0_; have HO_9 := n1_; have HB := n2_; clear n0_ n1_ n2_; (try clear hb); (try clear hb2); (try clear hk); (try clear hi)) | ((with_reducible refine gate_dst (N := 19) rfl ?_); (try (refine gate_guard (by rfl) ?_; dsimp only)); refine box_event ?hg (N := 19) ?hd (cs := #[.int .i64 0, .int .i64 0]) (t := 38) ?hr ?_; (case hd => rfl); (case hg => rfl); (case hr => first | (go_simp; done) | (go_simp; rfl)); intro gb352 hg w51 hbox hb; have n0_ := Aside0.mk (Kd.R_below (by (with_reducible repeat (first | apply Kd.R_alloc | apply Kd.R_drewN | apply Kd.R_drew)); exact HO_7.out) hb); have n1_ := Aside0.mk (Kd.R_below (Kd.R_elderB (by (with_reducible repeat (first | apply Kd.R_alloc | apply Kd.R_drewN | apply Kd.R_drew)); exact HO_9.out) gb352 (Nat.le_of_eq hg.symm)) hb); have n2_ := Aside0.mk (below_step (by repeat (first | (with_reducible first | exact HB.out | apply below_alloc | apply pw_below_drewN | apply below_drew1) | exact HB.out)) hb); have n3_ := Aside0.mk (hbox); have n4_ := Aside0.mk ((by rw [hg]; exact (below_size (by repeat (first | (with_reducible first | exact HB.out | apply below_alloc | apply pw_below_drewN | apply below_drew1) | exact HB.out))) : w.heap.size ≤ gb352)); have n5_ := Aside0.mk ((by rw [hg]; exact (below_size (by repeat (first | (with_reducible first | exact HB.out | apply below_alloc | apply pw_below_drewN | apply below_drew1) | exact HB.out))) : w.heap.size ≤ gb352)); clear HO_7; clear HO_9; clear HB; have HO_7 := n0_; have HO_9 := n1_; have HB := n2_; have BK352 := n3_; have GW352 := n4_; have GE352 := n5_; clear n0_ n1_ n2_ n3_ n4_ n5_; clear hb hbox hg; have hcz52_0 : w51.cell? ⟨gb352, 0, none⟩ = some (.int .i64 0) := (blk_cell BK352.out 0).trans rfl; have hcz52_1 : w51.cell? ⟨gb352, 1, none⟩ = some (.int .i64 0) := (blk_cell BK352.out 1).trans rfl; have hfz52_0 := blk_frozen BK352.out 0; have hfz52_1 := blk_frozen BK352.out 1; obtain ⟨Ao53, co53, eo53⟩ := Kd.R_slice HO_9.out; subst eo53) | ((with_reducible refine gate_callee (f := 31) rfl ?_); refine goesL_ (some 94) rfl rfl Try.func31 (by kernel_rfl) rfl #[.int .i64 a0, .slice Ao53 x9_3.length co53] rfl (by (try simp only [List.map_toArray, List.map_cons, List.map_nil]); first | done | rfl | (simp only [List.length_drop, List.length_take]; rfl)) ?_; (with_reducible refine (trim_Fuse.calls k3 a0 _ _ x9_3 t353 t354 t355 _ ?side1 ?side2 A25.out).mono ?_); (case side1 => refine (Kd.R_reads' (e := 38) (base := w.heap.size) (ok := fun k_ => (True ∧ k_ ≠ gb352)) (n := x9_3.length) (c := co53) ?_).2.2; exact (by (with_reducible repeat (first | apply Kd.R_alloc | apply Kd.R_drewN | apply Kd.R_drew)); exact (Kd.R_mono (Kd.R_far (p := ⟨gb352, 1, none⟩) (Kd.R_far (p := ⟨gb352, 0, none⟩) (Kd.R_mono HO_9.out (fun k_ hk => (⟨hk, hk.2⟩ : _ ∧ k_ ≠ gb352))) (fun _ hk => hk.2) (.int .i64 t349)) (fun _ hk => hk.2) (.int .i64 t350)) (fun _ h_ => h_.1)))); (case side2 => exact (Kd.R_reads' HO_9.out).2.1); rintro e w54 ⟨rfl, hb⟩; refine ⟨_, rfl, ?_⟩; have n0_ := Aside0.mk (Kd.R_below (by (with_reducible repeat (first | apply Kd.R_alloc | apply Kd.R_drewN | apply Kd.R_drew)); exact (Kd.R_mono (Kd.R_far (p := ⟨gb352, 1, none⟩) (Kd.R_far (p := ⟨gb352, 0, none⟩) (Kd.R_types HO_7.out BK352.out (by decide)) (fun _ hk => hk.2) (.int .i64 t349)) (fun _ hk => hk.2) (.int .i64 t350)) (fun _ h_ => h_.1))) hb); have n1_ := Aside0.mk (Kd.R_below (by (with_reducible repeat (first | apply Kd.R_alloc | apply Kd.R_drewN | apply Kd.R_drew)); exact (Kd.R_mono (Kd.R_far (p := ⟨gb352, 1, none⟩) (Kd.R_far (p := ⟨gb352, 0, none⟩) (Kd.R_mono HO_9.out (fun k_ hk => (⟨hk, hk.2⟩ : _ ∧ k_ ≠ gb352))) (fun _ hk => hk.2) (.int .i64 t349)) (fun _ hk => hk.2) (.int .i64 t350)) (fun _ h_ => h_.1))) hb); have n2_ := Aside0.mk (blk_below (g := gb352) (o := .cells #[.int .i64 t349, .int .i64 t350] 38 (0, 0)) (by (with_reducible repeat (first | refine blk_drewN ?_ _ | refine blk_drew ?_ | refine blk_alloc ?_ _)); refine blk_put (cs := #[.int .i64 t349, .int .i64 0]) ?_ 1 _ rfl; (with_reducible repeat (first | refine blk_drewN ?_ _ | refine blk_drew ?_ | refine blk_alloc ?_ _)); refine blk_put (cs := #[.int .i64 0, .int .i64 0]) ?_ 0 _ rfl; (with_reducible repeat (first | refine blk_drewN ?_ _ | refine blk_drew ?_ | refine blk_alloc ?_ _)); exact BK352.out) hb); have n3_ := Aside0.mk (below_step (by repeat (first | (with_reducible first | exact HB.out | apply below_alloc | apply pw_below_drewN | apply below_drew1 | refine below_set ?_ GE352.out) | exact HB.out)) hb); clear HO_7; clear HO_9; clear BK352; clear HB; have HO_7 := n0_; have HO_9 := n1_; have BK352 := n2_; have HB := n3_; clear n0_ n1_ n2_ n3_; (try clear hb); (try clear hb2); (try clear hk); (try clear hi)) | ((with_reducible refine gate_dst (N := 21) rfl ?_); (try (refine gate_guard (by rfl) ?_; dsimp only)); refine box_event ?hg (N := 21) ?hd (cs := #[.int .i64 0, .int .i64 0]) (t := 38) ?hr ?_; (case hd => rfl); (case hg => rfl); (case hr => first | (go_simp; done) | (go_simp; rfl)); intro gb356 hg w55 hbox hb; have n0_ := Aside0.mk (Kd.R_below (by (with_reducible repeat (first | apply Kd.R_alloc | apply Kd.R_drewN | apply Kd.R_drew)); exact HO_7.out) hb); have n1_ := Aside0.mk (Kd.R_below (Kd.R_elderB (by (with_reducible repeat (first | apply Kd.R_alloc | apply Kd.R_drewN | apply Kd.R_drew)); exact HO_9.out) gb356 (Nat.le_of_eq hg.symm)) hb); have n2_ := Aside0.mk (blk_below (g := gb352) (o := .cells #[.int .i64 t349, .int .i64 t350] 38 (0, 0)) (by (with_reducible repeat (first | refine blk_drewN ?_ _ | refine blk_drew ?_ | refine blk_alloc ?_ _)); exact BK352.out) hb); have n3_ := Aside0.mk (below_step (by repeat (first | (with_reducible first | exact HB.out | apply below_alloc | apply pw_below_drewN | apply below_drew1 | refine below_set ?_ GE352.out) | exact HB.out)) hb); have n4_ := Aside0.mk (hbox); have n5_ := Aside0.mk ((by rw [hg]; exact (below_size (by repeat (first | (with_reducible first | exact HB.out | apply below_alloc | apply pw_below_drewN | apply below_drew1 | refine below_set ?_ GE352.out) | exact HB.out))) : w.heap.size ≤ gb356)); have n6_ := Aside0.mk ((by rw [hg]; exact (below_size (by repeat (first | (with_reducible first | exact HB.out | apply below_alloc | apply pw_below_drewN | apply below_drew1 | refine below_set ?_ GE352.out) | exact HB.out))) : w.heap.size ≤ gb356)); have n7_ := Aside0.mk ((by rw [hg]; exact Nat.ne_of_lt (blk_lt (g := gb352) (o := .cells #[.int .i64 t349, .int .i64 t350] 38 (0, 0)) (by (with_reducible repeat (first | refine blk_drewN ?_ _ | refine blk_drew ?_ | refine blk_alloc ?_ _)); exact BK352.out)) : gb352 ≠ gb356)); have n8_ := Aside0.mk ((by rw [hg]; exact Nat.ne_of_gt (blk_lt (g := gb352) (o := .cells #[.int .i64 t349, .int .i64 t350] 38 (0, 0)) (by (with_reducible repeat (first | refine blk_drewN ?_ _ | refine blk_drew ?_ | refine blk_alloc ?_ _)); exact BK352.out)) : gb356 ≠ gb352)); clear HO_7; clear HO_9; clear BK352; clear HB; have HO_7 := n0_; have HO_9 := n1_; have BK352 := n2_; have HB := n3_; have BK356 := n4_; have GW356 := n5_; have GE356 := n6_; have NB352_356 := n7_; have NB356_352 := n8_; clear n0_ n1_ n2_ n3_ n4_ n5_ n6_ n7_ n8_; clear hb hbox hg; have hnb56 := NB356_352.out; have hnc56 := NB352_356.out; have hcz57_0 : w55.cell? ⟨gb356, 0, none⟩ = some (.int .i64 0) := (blk_cell BK356.out 0).trans rfl; have hcz57_1 : w55.cell? ⟨gb356, 1, none⟩ = some (.int .i64 0) := (blk_cell BK356.out 1).trans rfl; have hfz57_0 := blk_frozen BK356.out 0; have hfz57_1 := blk_frozen BK356.out 1; have hcz58_0 : w55.cell? ⟨gb352, 0, none⟩ = some (.int .i64 t349) := (blk_cell BK352.out 0).trans rfl; have hcz58_1 : w55.cell? ⟨gb352, 1, none⟩ = some (.int .i64 t350) := (blk_cell BK352.out 1).trans rfl; have hfz58_0 := blk_frozen BK352.out 0; have hfz58_1 := blk_frozen BK352.out 1))
                                go_ret
                                exact ⟨by first | rfl | (simp [errW_none, errW_some] <;> rfl) | (simp [*, errW_none, errW_some] <;> rfl), by repeat (first | (with_reducible first | exact HB.out | apply below_alloc | apply pw_below_drewN | apply below_drew1 | refine below_set ?_ GE352.out | refine below_set ?_ GE356.out) | exact HB.out)⟩
                            · rw [if_neg c29] at H
                              have c29b0 : (t346 == t348) = false := by simpa using c29
                              (try (have c29b1 : decide (t346 = t348) = false := by simpa using c29))
                              (try (have c29b2 : (t346 == t348) = false := by simpa using c29))
                              (try (have c29b3 : ¬ (t346 = t348) := by simpa using c29))
                              clear c29
                              obtain rfl := Option.some.inj H
                              go_wp2_with (first | ((with_reducible refine gate_callee (f := 26) rfl ?_); refine goesL_ (some 64) rfl rfl Try.func26 (by kernel_rfl) rfl #[.int .i64 a0, .slice A1 l1.length c1] rfl (by (try simp only [List.map_toArray, List.map_cons, List.map_nil]); first | done | rfl | (simp only [List.length_drop, List.length_take]; rfl)) ?_; (with_reducible refine (trim_Middle.calls k3 a0 _ _ l1 t341 t342 _ ?side1 ?side2 A20.out).mono ?_); (case side1 => repeat (first | exact (Kd.C_below HR1.out HB.out) | (with_reducible refine Kd.C_alloc ?_ _) | (with_reducible refine Kd.C_drewN ?_ _) | (with_reducible refine Kd.C_drew ?_))); (case side2 => exact HC1.out); rintro e w59 ⟨rfl, hb⟩; refine ⟨_, rfl, ?_⟩; have n0_ := Aside0.mk (Kd.R_below (by (with_reducible repeat (first | apply Kd.R_alloc | apply Kd.R_drewN | apply Kd.R_drew)); exact HO_7.out) hb); have n1_ := Aside0.mk (Kd.R_below (by (with_reducible repeat (first | apply Kd.R_alloc | apply Kd.R_drewN | apply Kd.R_drew)); exact HO_9.out) hb); have n2_ := Aside0.mk (below_step (by repeat (first | (with_reducible first | exact HB.out | apply below_alloc | apply pw_below_drewN | apply below_drew1) | exact HB.out)) hb); clear HO_7; clear HO_9; clear HB; have HO_7 := n0_; have HO_9 := n1_; have HB := n2_; clear n0_ n1_ n2_; (try clear hb); (try clear hb2); (try clear hk); (try clear hi); obtain ⟨Ao60, co60, eo60⟩ := Kd.R_slice HO_7.out; subst eo60) | ((with_reducible refine gate_callee (f := 26) rfl ?_); refine goesL_ (some 70) rfl rfl Try.func26 (by kernel_rfl) rfl #[.int .i64 a0, .slice Ao60 x7_2.length co60] rfl (by (try simp only [List.map_toArray, List.map_cons, List.map_nil]); first | done | rfl | (simp only [List.length_drop, List.length_take]; rfl)) ?_; (with_reducible refine (trim_Middle.calls k3 a0 _ _ x7_2 t343 t344 _ ?side1 ?side2 A21.out).mono ?_); (case side1 => repeat (first | exact (Kd.R_reads' HO_7.out).2.2 | (with_reducible refine Kd.C_alloc ?_ _) | (with_reducible refine Kd.C_drewN ?_ _) | (with_reducible refine Kd.C_drew ?_))); (case side2 => exact (Kd.R_reads' HO_7.out).2.1); rintro e w61 ⟨rfl, hb⟩; refine ⟨_, rfl, ?_⟩; have n0_ := Aside0.mk (Kd.R_below (by (with_reducible repeat (first | apply Kd.R_alloc | apply Kd.R_drewN | apply Kd.R_drew)); exact HO_7.out) hb); have n1_ := Aside0.mk (Kd.R_below (by (with_reducible repeat (first | apply Kd.R_alloc | apply Kd.R_drewN | apply Kd.R_drew)); exact HO_9.out) hb); have n2_ := Aside0.mk (below_step (by repeat (first | (with_reducible first | exact HB.out | apply below_alloc | apply pw_below_drewN | apply below_drew1) | exact HB.out)) hb); clear HO_7; clear HO_9; clear HB; have HO_7 := n0_; have HO_9 := n1_; have HB := n2_; clear n0_ n1_ n2_; (try clear hb); (try clear hb2); (try clear hk); (try clear hi)) | ((with_reducible refine gate_callee (f := 24) rfl ?_); refine goesL_ (some 76) rfl rfl Try.func24 (by kernel_rfl) rfl #[.int .i64 a0, .slice A1 l1.length c1] rfl (by (try simp only [List.map_toArray, List.map_cons, List.map_nil]); first | done | rfl | (simp only [List.length_drop, List.length_take]; rfl)) ?_; (with_reducible refine (trim_Least.calls a0 _ _ l1 t345 t346 _ ?side1 ?side2 A22.out).mono ?_); (case side1 => repeat (first | exact (Kd.C_below HR1.out HB.out) | (with_reducible refine Kd.C_alloc ?_ _) | (with_reducible refine Kd.C_drewN ?_ _) | (with_reducible refine Kd.C_drew ?_))); (case side2 => exact HC1.out); rintro e w62 ⟨rfl, hb⟩; refine ⟨_, rfl, ?_⟩; have n0_ := Aside0.mk (Kd.R_below (by (with_reducible repeat (first | apply Kd.R_alloc | apply Kd.R_drewN | apply Kd.R_drew)); exact HO_7.out) hb); have n1_ := Aside0.mk (Kd.R_below (by (with_reducible repeat (first | apply Kd.R_alloc | apply Kd.R_drewN | apply Kd.R_drew)); exact HO_9.out) hb); have n2_ := Aside0.mk (below_step (by repeat (first | (with_reducible first | exact HB.out | apply below_alloc | apply pw_below_drewN | apply below_drew1) | exact HB.out)) hb); clear HO_7; clear HO_9; clear HB; have HO_7 := n0_; have HO_9 := n1_; have HB := n2_; clear n0_ n1_ n2_; (try clear hb); (try clear hb2); (try clear hk); (try clear hi)) | ((with_reducible refine gate_callee (f := 24) rfl ?_); refine goesL_ (some 82) rfl rfl Try.func24 (by kernel_rfl) rfl #[.int .i64 a0, .slice Ao60 x7_2.length co60] rfl (by (try simp only [List.map_toArray, List.map_cons, List.map_nil]); first | done | rfl | (simp only [List.length_drop, List.length_take]; rfl)) ?_; (with_reducible refine (trim_Least.calls a0 _ _ x7_2 t347 t348 _ ?side1 ?side2 A23.out).mono ?_); (case side1 => repeat (first | exact (Kd.R_reads' HO_7.out).2.2 | (with_reducible refine Kd.C_alloc ?_ _) | (with_reducible refine Kd.C_drewN ?_ _) | (with_reducible refine Kd.C_drew ?_))); (case side2 => exact (Kd.R_reads' HO_7.out).2.1); rintro e w63 ⟨rfl, hb⟩; refine ⟨_, rfl, ?_⟩; have n0_ := Aside0.mk (Kd.R_below (by (with_reducible repeat (first | apply Kd.R_alloc | apply Kd.R_drewN | apply Kd.R_drew)); exact HO_7.out) hb); have n1_ := Aside0.mk (Kd.R_below (by (with_reducible repeat (first | apply Kd.R_alloc | apply Kd.R_drewN | apply Kd.R_drew)); exact HO_9.out) hb); have n2_ := Aside0.mk (below_step (by repeat (first | (with_reducible first | exact HB.out | apply below_alloc | apply pw_below_drewN | apply below_drew1) | exact HB.out)) hb); clear HO_7; clear HO_9; clear HB; have HO_7 := n0_; have HO_9 := n1_; have HB := n2_; clear n0_ n1_ n2_; (try clear hb); (try clear hb2); (try clear hk); (try clear hi)) | ((with_reducible refine gate_callee (f := 31) rfl ?_); refine goesL_ (some 88) rfl rfl Try.func31 (by kernel_rfl) rfl #[.int .i64 a0, .slice A2 l2.length c2] rfl (by (try simp only [List.map_toArray, List.map_cons, List.map_nil]); first | done | rfl | (simp only [List.length_drop, List.length_take]; rfl)) ?_; (with_reducible refine (trim_Fuse.calls k3 a0 _ _ l2 t349 t350 t351 _ ?side1 ?side2 A24.out).mono ?_); (case side1 => repeat (first | exact (Kd.C_below HR2.out HB.out) | (with_reducible refine Kd.C_alloc ?_ _) | (with_reducible refine Kd.C_drewN ?_ _) | (with_reducible refine Kd.C_drew ?_))); (case side2 => exact HC2.out); rintro e w64 ⟨rfl, hb⟩; refine ⟨_, rfl, ?_⟩; have n0_ := Aside0.mk (Kd.R_below (by (with_reducible repeat (first | apply Kd.R_alloc | apply Kd.R_drewN | apply Kd.R_drew)); exact HO_7.out) hb); have n1_ := Aside0.mk (Kd.R_below (by (with_reducible repeat (first | apply Kd.R_alloc | apply Kd.R_drewN | apply Kd.R_drew)); exact HO_9.out) hb); have n2_ := Aside0.mk (below_step (by repeat (first | (with_reducible first | exact HB.out | apply below_alloc | apply pw_below_drewN | apply below_drew1) | exact HB.out)) hb); clear HO_7; clear HO_9; clear HB; have HO_7 := n0_; have HO_9 := n1_; have HB := n2_; clear n0_ n1_ n2_; (try clear hb); (try clear hb2); (try clear hk); (try clear hi)) | ((with_reducible refine gate_dst (N := 19) rfl ?_); (try (refine gate_guard (by rfl) ?_; dsimp only)); refine box_event ?hg (N := 19) ?hd (cs := #[.int .i64 0, .int .i64 0]) (t := 38) ?hr ?_; (case hd => rfl); (case hg => rfl); (case hr => first | (go_simp; done) | (go_simp; rfl)); intro gb352 hg w65 hbox hb; have n0_ := Aside0.mk (Kd.R_below (by (with_reducible repeat (first | apply Kd.R_alloc | apply Kd.R_drewN | apply Kd.R_drew)); exact HO_7.out) hb); have n1_ := Aside0.mk (Kd.R_below (Kd.R_elderB (by (with_reducible repeat (first | apply Kd.R_alloc | apply Kd.R_drewN | apply Kd.R_drew)); exact HO_9.out) gb352 (Nat.le_of_eq hg.symm)) hb); have n2_ := Aside0.mk (below_step (by repeat (first | (with_reducible first | exact HB.out | apply below_alloc | apply pw_below_drewN | apply below_drew1) | exact HB.out)) hb); have n3_ := Aside0.mk (hbox); have n4_ := Aside0.mk ((by rw [hg]; exact (below_size (by repeat (first | (with_reducible first | exact HB.out | apply below_alloc | apply pw_below_drewN | apply below_drew1) | exact HB.out))) : w.heap.size ≤ gb352)); have n5_ := Aside0.mk ((by rw [hg]; exact (below_size (by repeat (first | (with_reducible first | exact HB.out | apply below_alloc | apply pw_below_drewN | apply below_drew1) | exact HB.out))) : w.heap.size ≤ gb352)); clear HO_7; clear HO_9; clear HB; have HO_7 := n0_; have HO_9 := n1_; have HB := n2_; have BK352 := n3_; have GW352 := n4_; have GE352 := n5_; clear n0_ n1_ n2_ n3_ n4_ n5_; clear hb hbox hg; have hcz66_0 : w65.cell? ⟨gb352, 0, none⟩ = some (.int .i64 0) := (blk_cell BK352.out 0).trans rfl; have hcz66_1 : w65.cell? ⟨gb352, 1, none⟩ = some (.int .i64 0) := (blk_cell BK352.out 1).trans rfl; have hfz66_0 := blk_frozen BK352.out 0; have hfz66_1 := blk_frozen BK352.out 1; obtain ⟨Ao67, co67, eo67⟩ := Kd.R_slice HO_9.out; subst eo67) | ((with_reducible refine gate_callee (f := 31) rfl ?_); refine goesL_ (some 94) rfl rfl Try.func31 (by kernel_rfl) rfl #[.int .i64 a0, .slice Ao67 x9_3.length co67] rfl (by (try simp only [List.map_toArray, List.map_cons, List.map_nil]); first | done | rfl | (simp only [List.length_drop, List.length_take]; rfl)) ?_; (with_reducible refine (trim_Fuse.calls k3 a0 _ _ x9_3 t353 t354 t355 _ ?side1 ?side2 A25.out).mono ?_); (case side1 => refine (Kd.R_reads' (e := 38) (base := w.heap.size) (ok := fun k_ => (True ∧ k_ ≠ gb352)) (n := x9_3.length) (c := co67) ?_).2.2; exact (by (with_reducible repeat (first | apply Kd.R_alloc | apply Kd.R_drewN | apply Kd.R_drew)); exact (Kd.R_mono (Kd.R_far (p := ⟨gb352, 1, none⟩) (Kd.R_far (p := ⟨gb352, 0, none⟩) (Kd.R_mono HO_9.out (fun k_ hk => (⟨hk, hk.2⟩ : _ ∧ k_ ≠ gb352))) (fun _ hk => hk.2) (.int .i64 t349)) (fun _ hk => hk.2) (.int .i64 t350)) (fun _ h_ => h_.1)))); (case side2 => exact (Kd.R_reads' HO_9.out).2.1); rintro e w68 ⟨rfl, hb⟩; refine ⟨_, rfl, ?_⟩; have n0_ := Aside0.mk (Kd.R_below (by (with_reducible repeat (first | apply Kd.R_alloc | apply Kd.R_drewN | apply Kd.R_drew)); exact (Kd.R_mono (Kd.R_far (p := ⟨gb352, 1, none⟩) (Kd.R_far (p := ⟨gb352, 0, none⟩) (Kd.R_types HO_7.out BK352.out (by decide)) (fun _ hk => hk.2) (.int .i64 t349)) (fun _ hk => hk.2) (.int .i64 t350)) (fun _ h_ => h_.1))) hb); have n1_ := Aside0.mk (Kd.R_below (by (with_reducible repeat (first | apply Kd.R_alloc | apply Kd.R_drewN | apply Kd.R_drew)); exact (Kd.R_mono (Kd.R_far (p := ⟨gb352, 1, none⟩) (Kd.R_far (p := ⟨gb352, 0, none⟩) (Kd.R_mono HO_9.out (fun k_ hk => (⟨hk, hk.2⟩ : _ ∧ k_ ≠ gb352))) (fun _ hk => hk.2) (.int .i64 t349)) (fun _ hk => hk.2) (.int .i64 t350)) (fun _ h_ => h_.1))) hb); have n2_ := Aside0.mk (blk_below (g := gb352) (o := .cells #[.int .i64 t349, .int .i64 t350] 38 (0, 0)) (by (with_reducible repeat (first | refine blk_drewN ?_ _ | refine blk_drew ?_ | refine blk_alloc ?_ _)); refine blk_put (cs := #[.int .i64 t349, .int .i64 0]) ?_ 1 _ rfl; (with_reducible repeat (first | refine blk_drewN ?_ _ | refine blk_drew ?_ | refine blk_alloc ?_ _)); refine blk_put (cs := #[.int .i64 0, .int .i64 0]) ?_ 0 _ rfl; (with_reducible repeat (first | refine blk_drewN ?_ _ | refine blk_drew ?_ | refine blk_alloc ?_ _)); exact BK352.out) hb); have n3_ := Aside0.mk (below_step (by repeat (first | (with_reducible first | exact HB.out | apply below_alloc | apply pw_below_drewN | apply below_drew1 | refine below_set ?_ GE352.out) | exact HB.out)) hb); clear HO_7; clear HO_9; clear BK352; clear HB; have HO_7 := n0_; have HO_9 := n1_; have BK352 := n2_; have HB := n3_; clear n0_ n1_ n2_ n3_; (try clear hb); (try clear hb2); (try clear hk); (try clear hi)) | ((with_reducible refine gate_dst (N := 21) rfl ?_); (try (refine gate_guard (by rfl) ?_; dsimp only)); refine box_event ?hg (N := 21) ?hd (cs := #[.int .i64 0, .int .i64 0]) (t := 38) ?hr ?_; (case hd => rfl); (case hg => rfl); (case hr => first | (go_simp; done) | (go_simp; rfl)); intro gb356 hg w69 hbox hb; have n0_ := Aside0.mk (Kd.R_below (by (with_reducible repeat (first | apply Kd.R_alloc | apply Kd.R_drewN | apply Kd.R_drew)); exact HO_7.out) hb); have n1_ := Aside0.mk (Kd.R_below (Kd.R_elderB (by (with_reducible repeat (first | apply Kd.R_alloc | apply Kd.R_drewN | apply Kd.R_drew)); exact HO_9.out) gb356 (Nat.le_of_eq hg.symm)) hb); have n2_ := Aside0.mk (blk_below (g := gb352) (o := .cells #[.int .i64 t349, .int .i64 t350] 38 (0, 0)) (by (with_reducible repeat (first | refine blk_drewN ?_ _ | refine blk_drew ?_ | refine blk_alloc ?_ _)); exact BK352.out) hb); have n3_ := Aside0.mk (below_step (by repeat (first | (with_reducible first | exact HB.out | apply below_alloc | apply pw_below_drewN | apply below_drew1 | refine below_set ?_ GE352.out) | exact HB.out)) hb); have n4_ := Aside0.mk (hbox); have n5_ := Aside0.mk ((by rw [hg]; exact (below_size (by repeat (first | (with_reducible first | exact HB.out | apply below_alloc | apply pw_below_drewN | apply below_drew1 | refine below_set ?_ GE352.out) | exact HB.out))) : w.heap.size ≤ gb356)); have n6_ := Aside0.mk ((by rw [hg]; exact (below_size (by repeat (first | (with_reducible first | exact HB.out | apply below_alloc | apply pw_below_drewN | apply below_drew1 | refine below_set ?_ GE352.out) | exact HB.out))) : w.heap.size ≤ gb356)); have n7_ := Aside0.mk ((by rw [hg]; exact Nat.ne_of_lt (blk_lt (g := gb352) (o := .cells #[.int .i64 t349, .int .i64 t350] 38 (0, 0)) (by (with_reducible repeat (first | refine blk_drewN ?_ _ | refine blk_drew ?_ | refine blk_alloc ?_ _)); exact BK352.out)) : gb352 ≠ gb356)); have n8_ := Aside0.mk ((by rw [hg]; exact Nat.ne_of_gt (blk_lt (g := gb352) (o := .cells #[.int .i64 t349, .int .i64 t350] 38 (0, 0)) (by (with_reducible repeat (first | refine blk_drewN ?_ _ | refine blk_drew ?_ | refine blk_alloc ?_ _)); exact BK352.out)) : gb356 ≠ gb352)); clear HO_7; clear HO_9; clear BK352; clear HB; have HO_7 := n0_; have HO_9 := n1_; have BK352 := n2_; have HB := n3_; have BK356 := n4_; have GW356 := n5_; have GE356 := n6_; have NB352_356 := n7_; have NB356_352 := n8_; clear n0_ n1_ n2_ n3_ n4_ n5_ n6_ n7_ n8_; clear hb hbox hg; have hnb70 := NB356_352.out; have hnc70 := NB352_356.out; have hcz71_0 : w69.cell? ⟨gb356, 0, none⟩ = some (.int .i64 0) := (blk_cell BK356.out 0).trans rfl; have hcz71_1 : w69.cell? ⟨gb356, 1, none⟩ = some (.int .i64 0) := (blk_cell BK356.out 1).trans rfl; have hfz71_0 := blk_frozen BK356.out 0; have hfz71_1 := blk_frozen BK356.out 1))
                              go_ret
                              exact ⟨by first | rfl | (simp [errW_none, errW_some] <;> rfl) | (simp [*, errW_none, errW_some] <;> rfl), by repeat (first | (with_reducible first | exact HB.out | apply below_alloc | apply pw_below_drewN | apply below_drew1 | refine below_set ?_ GE352.out | refine below_set ?_ GE356.out) | exact HB.out)⟩
                          · rw [if_neg c28] at H
                            have c28b0 : (t345 == t347) = false := beq_eq_false_iff_ne.mpr c28
                            have c28b1 : (t345 != t347) = true := bne_iff_ne.mpr c28
                            obtain rfl := Option.some.inj H
                            go_wp2_with (first | ((with_reducible refine gate_callee (f := 26) rfl ?_); refine goesL_ (some 64) rfl rfl Try.func26 (by kernel_rfl) rfl #[.int .i64 a0, .slice A1 l1.length c1] rfl (by (try simp only [List.map_toArray, List.map_cons, List.map_nil]); first | done | rfl | (simp only [List.length_drop, List.length_take]; rfl)) ?_; (with_reducible refine (trim_Middle.calls k3 a0 _ _ l1 t341 t342 _ ?side1 ?side2 A20.out).mono ?_); (case side1 => repeat (first | exact (Kd.C_below HR1.out HB.out) | (with_reducible refine Kd.C_alloc ?_ _) | (with_reducible refine Kd.C_drewN ?_ _) | (with_reducible refine Kd.C_drew ?_))); (case side2 => exact HC1.out); rintro e w72 ⟨rfl, hb⟩; refine ⟨_, rfl, ?_⟩; have n0_ := Aside0.mk (Kd.R_below (by (with_reducible repeat (first | apply Kd.R_alloc | apply Kd.R_drewN | apply Kd.R_drew)); exact HO_7.out) hb); have n1_ := Aside0.mk (Kd.R_below (by (with_reducible repeat (first | apply Kd.R_alloc | apply Kd.R_drewN | apply Kd.R_drew)); exact HO_9.out) hb); have n2_ := Aside0.mk (below_step (by repeat (first | (with_reducible first | exact HB.out | apply below_alloc | apply pw_below_drewN | apply below_drew1) | exact HB.out)) hb); clear HO_7; clear HO_9; clear HB; have HO_7 := n0_; have HO_9 := n1_; have HB := n2_; clear n0_ n1_ n2_; (try clear hb); (try clear hb2); (try clear hk); (try clear hi); obtain ⟨Ao73, co73, eo73⟩ := Kd.R_slice HO_7.out; subst eo73) | ((with_reducible refine gate_callee (f := 26) rfl ?_); refine goesL_ (some 70) rfl rfl Try.func26 (by kernel_rfl) rfl #[.int .i64 a0, .slice Ao73 x7_2.length co73] rfl (by (try simp only [List.map_toArray, List.map_cons, List.map_nil]); first | done | rfl | (simp only [List.length_drop, List.length_take]; rfl)) ?_; (with_reducible refine (trim_Middle.calls k3 a0 _ _ x7_2 t343 t344 _ ?side1 ?side2 A21.out).mono ?_); (case side1 => repeat (first | exact (Kd.R_reads' HO_7.out).2.2 | (with_reducible refine Kd.C_alloc ?_ _) | (with_reducible refine Kd.C_drewN ?_ _) | (with_reducible refine Kd.C_drew ?_))); (case side2 => exact (Kd.R_reads' HO_7.out).2.1); rintro e w74 ⟨rfl, hb⟩; refine ⟨_, rfl, ?_⟩; have n0_ := Aside0.mk (Kd.R_below (by (with_reducible repeat (first | apply Kd.R_alloc | apply Kd.R_drewN | apply Kd.R_drew)); exact HO_7.out) hb); have n1_ := Aside0.mk (Kd.R_below (by (with_reducible repeat (first | apply Kd.R_alloc | apply Kd.R_drewN | apply Kd.R_drew)); exact HO_9.out) hb); have n2_ := Aside0.mk (below_step (by repeat (first | (with_reducible first | exact HB.out | apply below_alloc | apply pw_below_drewN | apply below_drew1) | exact HB.out)) hb); clear HO_7; clear HO_9; clear HB; have HO_7 := n0_; have HO_9 := n1_; have HB := n2_; clear n0_ n1_ n2_; (try clear hb); (try clear hb2); (try clear hk); (try clear hi)) | ((with_reducible refine gate_callee (f := 24) rfl ?_); refine goesL_ (some 76) rfl rfl Try.func24 (by kernel_rfl) rfl #[.int .i64 a0, .slice A1 l1.length c1] rfl (by (try simp only [List.map_toArray, List.map_cons, List.map_nil]); first | done | rfl | (simp only [List.length_drop, List.length_take]; rfl)) ?_; (with_reducible refine (trim_Least.calls a0 _ _ l1 t345 t346 _ ?side1 ?side2 A22.out).mono ?_); (case side1 => repeat (first | exact (Kd.C_below HR1.out HB.out) | (with_reducible refine Kd.C_alloc ?_ _) | (with_reducible refine Kd.C_drewN ?_ _) | (with_reducible refine Kd.C_drew ?_))); (case side2 => exact HC1.out); rintro e w75 ⟨rfl, hb⟩; refine ⟨_, rfl, ?_⟩; have n0_ := Aside0.mk (Kd.R_below (by (with_reducible repeat (first | apply Kd.R_alloc | apply Kd.R_drewN | apply Kd.R_drew)); exact HO_7.out) hb); have n1_ := Aside0.mk (Kd.R_below (by (with_reducible repeat (first | apply Kd.R_alloc | apply Kd.R_drewN | apply Kd.R_drew)); exact HO_9.out) hb); have n2_ := Aside0.mk (below_step (by repeat (first | (with_reducible first | exact HB.out | apply below_alloc | apply pw_below_drewN | apply below_drew1) | exact HB.out)) hb); clear HO_7; clear HO_9; clear HB; have HO_7 := n0_; have HO_9 := n1_; have HB := n2_; clear n0_ n1_ n2_; (try clear hb); (try clear hb2); (try clear hk); (try clear hi)) | ((with_reducible refine gate_callee (f := 24) rfl ?_); refine goesL_ (some 82) rfl rfl Try.func24 (by kernel_rfl) rfl #[.int .i64 a0, .slice Ao73 x7_2.length co73] rfl (by (try simp only [List.map_toArray, List.map_cons, List.map_nil]); first | done | rfl | (simp only [List.length_drop, List.length_take]; rfl)) ?_; (with_reducible refine (trim_Least.calls a0 _ _ x7_2 t347 t348 _ ?side1 ?side2 A23.out).mono ?_); (case side1 => repeat (first | exact (Kd.R_reads' HO_7.out).2.2 | (with_reducible refine Kd.C_alloc ?_ _) | (with_reducible refine Kd.C_drewN ?_ _) | (with_reducible refine Kd.C_drew ?_))); (case side2 => exact (Kd.R_reads' HO_7.out).2.1); rintro e w76 ⟨rfl, hb⟩; refine ⟨_, rfl, ?_⟩; have n0_ := Aside0.mk (Kd.R_below (by (with_reducible repeat (first | apply Kd.R_alloc | apply Kd.R_drewN | apply Kd.R_drew)); exact HO_7.out) hb); have n1_ := Aside0.mk (Kd.R_below (by (with_reducible repeat (first | apply Kd.R_alloc | apply Kd.R_drewN | apply Kd.R_drew)); exact HO_9.out) hb); have n2_ := Aside0.mk (below_step (by repeat (first | (with_reducible first | exact HB.out | apply below_alloc | apply pw_below_drewN | apply below_drew1) | exact HB.out)) hb); clear HO_7; clear HO_9; clear HB; have HO_7 := n0_; have HO_9 := n1_; have HB := n2_; clear n0_ n1_ n2_; (try clear hb); (try clear hb2); (try clear hk); (try clear hi)) | ((with_reducible refine gate_callee (f := 31) rfl ?_); refine goesL_ (some 88) rfl rfl Try.func31 (by kernel_rfl) rfl #[.int .i64 a0, .slice A2 l2.length c2] rfl (by (try simp only [List.map_toArray, List.map_cons, List.map_nil]); first | done | rfl | (simp only [List.length_drop, List.length_take]; rfl)) ?_; (with_reducible refine (trim_Fuse.calls k3 a0 _ _ l2 t349 t350 t351 _ ?side1 ?side2 A24.out).mono ?_); (case side1 => repeat (first | exact (Kd.C_below HR2.out HB.out) | (with_reducible refine Kd.C_alloc ?_ _) | (with_reducible refine Kd.C_drewN ?_ _) | (with_reducible refine Kd.C_drew ?_))); (case side2 => exact HC2.out); rintro e w77 ⟨rfl, hb⟩; refine ⟨_, rfl, ?_⟩; have n0_ := Aside0.mk (Kd.R_below (by (with_reducible repeat (first | apply Kd.R_alloc | apply Kd.R_drewN | apply Kd.R_drew)); exact HO_7.out) hb); have n1_ := Aside0.mk (Kd.R_below (by (with_reducible repeat (first | apply Kd.R_alloc | apply Kd.R_drewN | apply Kd.R_drew)); exact HO_9.out) hb); have n2_ := Aside0.mk (below_step (by repeat (first | (with_reducible first | exact HB.out | apply below_alloc | apply pw_below_drewN | apply below_drew1) | exact HB.out)) hb); clear HO_7; clear HO_9; clear HB; have HO_7 := n0_; have HO_9 := n1_; have HB := n2_; clear n0_ n1_ n2_; (try clear hb); (try clear hb2); (try clear hk); (try clear hi)) | ((with_reducible refine gate_dst (N := 19) rfl ?_); (try (refine gate_guard (by rfl) ?_; dsimp only)); refine box_event ?hg (N := 19) ?hd (cs := #[.int .i64 0, .int .i64 0]) (t := 38) ?hr ?_; (case hd => rfl); (case hg => rfl); (case hr => first | (go_simp; done) | (go_simp; rfl)); intro gb352 hg w78 hbox hb; have n0_ := Aside0.mk (Kd.R_below (by (with_reducible repeat (first | apply Kd.R_alloc | apply Kd.R_drewN | apply Kd.R_drew)); exact HO_7.out) hb); have n1_ := Aside0.mk (Kd.R_below (Kd.R_elderB (by (with_reducible repeat (first | apply Kd.R_alloc | apply Kd.R_drewN | apply Kd.R_drew)); exact HO_9.out) gb352 (Nat.le_of_eq hg.symm)) hb); have n2_ := Aside0.mk (below_step (by repeat (first | (with_reducible first | exact HB.out | apply below_alloc | apply pw_below_drewN | apply below_drew1) | exact HB.out)) hb); have n3_ := Aside0.mk (hbox); have n4_ := Aside0.mk ((by rw [hg]; exact (below_size (by repeat (first | (with_reducible first | exact HB.out | apply below_alloc | apply pw_below_drewN | apply below_drew1) | exact HB.out))) : w.heap.size ≤ gb352)); have n5_ := Aside0.mk ((by rw [hg]; exact (below_size (by repeat (first | (with_reducible first | exact HB.out | apply below_alloc | apply pw_below_drewN | apply below_drew1) | exact HB.out))) : w.heap.size ≤ gb352)); clear HO_7; clear HO_9; clear HB; have HO_7 := n0_; have HO_9 := n1_; have HB := n2_; have BK352 := n3_; have GW352 := n4_; have GE352 := n5_; clear n0_ n1_ n2_ n3_ n4_ n5_; clear hb hbox hg; have hcz79_0 : w78.cell? ⟨gb352, 0, none⟩ = some (.int .i64 0) := (blk_cell BK352.out 0).trans rfl; have hcz79_1 : w78.cell? ⟨gb352, 1, none⟩ = some (.int .i64 0) := (blk_cell BK352.out 1).trans rfl; have hfz79_0 := blk_frozen BK352.out 0; have hfz79_1 := blk_frozen BK352.out 1; obtain ⟨Ao80, co80, eo80⟩ := Kd.R_slice HO_9.out; subst eo80) | ((with_reducible refine gate_callee (f := 31) rfl ?_); refine goesL_ (some 94) rfl rfl Try.func31 (by kernel_rfl) rfl #[.int .i64 a0, .slice Ao80 x9_3.length co80] rfl (by (try simp only [List.map_toArray, List.map_cons, List.map_nil]); first | done | rfl | (simp only [List.length_drop, List.length_take]; rfl)) ?_; (with_reducible refine (trim_Fuse.calls k3 a0 _ _ x9_3 t353 t354 t355 _ ?side1 ?side2 A25.out).mono ?_); (case side1 => refine (Kd.R_reads' (e := 38) (base := w.heap.size) (ok := fun k_ => (True ∧ k_ ≠ gb352)) (n := x9_3.length) (c := co80) ?_).2.2; exact (by (with_reducible repeat (first | apply Kd.R_alloc | apply Kd.R_drewN | apply Kd.R_drew)); exact (Kd.R_mono (Kd.R_far (p := ⟨gb352, 1, none⟩) (Kd.R_far (p := ⟨gb352, 0, none⟩) (Kd.R_mono HO_9.out (fun k_ hk => (⟨hk, hk.2⟩ : _ ∧ k_ ≠ gb352))) (fun _ hk => hk.2) (.int .i64 t349)) (fun _ hk => hk.2) (.int .i64 t350)) (fun _ h_ => h_.1)))); (case side2 => exact (Kd.R_reads' HO_9.out).2.1); rintro e w81 ⟨rfl, hb⟩; refine ⟨_, rfl, ?_⟩; have n0_ := Aside0.mk (Kd.R_below (by (with_reducible repeat (first | apply Kd.R_alloc | apply Kd.R_drewN | apply Kd.R_drew)); exact (Kd.R_mono (Kd.R_far (p := ⟨gb352, 1, none⟩) (Kd.R_far (p := ⟨gb352, 0, none⟩) (Kd.R_types HO_7.out BK352.out (by decide)) (fun _ hk => hk.2) (.int .i64 t349)) (fun _ hk => hk.2) (.int .i64 t350)) (fun _ h_ => h_.1))) hb); have n1_ := Aside0.mk (Kd.R_below (by (with_reducible repeat (first | apply Kd.R_alloc | apply Kd.R_drewN | apply Kd.R_drew)); exact (Kd.R_mono (Kd.R_far (p := ⟨gb352, 1, none⟩) (Kd.R_far (p := ⟨gb352, 0, none⟩) (Kd.R_mono HO_9.out (fun k_ hk => (⟨hk, hk.2⟩ : _ ∧ k_ ≠ gb352))) (fun _ hk => hk.2) (.int .i64 t349)) (fun _ hk => hk.2) (.int .i64 t350)) (fun _ h_ => h_.1))) hb); have n2_ := Aside0.mk (blk_below (g := gb352) (o := .cells #[.int .i64 t349, .int .i64 t350] 38 (0, 0)) (by (with_reducible repeat (first | refine blk_drewN ?_ _ | refine blk_drew ?_ | refine blk_alloc ?_ _)); refine blk_put (cs := #[.int .i64 t349, .int .i64 0]) ?_ 1 _ rfl; (with_reducible repeat (first | refine blk_drewN ?_ _ | refine blk_drew ?_ | refine blk_alloc ?_ _)); refine blk_put (cs := #[.int .i64 0, .int .i64 0]) ?_ 0 _ rfl; (with_reducible repeat (first | refine blk_drewN ?_ _ | refine blk_drew ?_ | refine blk_alloc ?_ _)); exact BK352.out) hb); have n3_ := Aside0.mk (below_step (by repeat (first | (with_reducible first | exact HB.out | apply below_alloc | apply pw_below_drewN | apply below_drew1 | refine below_set ?_ GE352.out) | exact HB.out)) hb); clear HO_7; clear HO_9; clear BK352; clear HB; have HO_7 := n0_; have HO_9 := n1_; have BK352 := n2_; have HB := n3_; clear n0_ n1_ n2_ n3_; (try clear hb); (try clear hb2); (try clear hk); (try clear hi)) | ((with_reducible refine gate_dst (N := 21) rfl ?_); (try (refine gate_guard (by rfl) ?_; dsimp only)); refine box_event ?hg (N := 21) ?hd (cs := #[.int .i64 0, .int .i64 0]) (t := 38) ?hr ?_; (case hd => rfl); (case hg => rfl); (case hr => first | (go_simp; done) | (go_simp; rfl)); intro gb356 hg w82 hbox hb; have n0_ := Aside0.mk (Kd.R_below (by (with_reducible repeat (first | apply Kd.R_alloc | apply Kd.R_drewN | apply Kd.R_drew)); exact HO_7.out) hb); have n1_ := Aside0.mk (Kd.R_below (Kd.R_elderB (by (with_reducible repeat (first | apply Kd.R_alloc | apply Kd.R_drewN | apply Kd.R_drew)); exact HO_9.out) gb356 (Nat.le_of_eq hg.symm)) hb); have n2_ := Aside0.mk (blk_below (g := gb352) (o := .cells #[.int .i64 t349, .int .i64 t350] 38 (0, 0)) (by (with_reducible repeat (first | refine blk_drewN ?_ _ | refine blk_drew ?_ | refine blk_alloc ?_ _)); exact BK352.out) hb); have n3_ := Aside0.mk (below_step (by repeat (first | (with_reducible first | exact HB.out | apply below_alloc | apply pw_below_drewN | apply below_drew1 | refine below_set ?_ GE352.out) | exact HB.out)) hb); have n4_ := Aside0.mk (hbox); have n5_ := Aside0.mk ((by rw [hg]; exact (below_size (by repeat (first | (with_reducible first | exact HB.out | apply below_alloc | apply pw_below_drewN | apply below_drew1 | refine below_set ?_ GE352.out) | exact HB.out))) : w.heap.size ≤ gb356)); have n6_ := Aside0.mk ((by rw [hg]; exact (below_size (by repeat (first | (with_reducible first | exact HB.out | apply below_alloc | apply pw_below_drewN | apply below_drew1 | refine below_set ?_ GE352.out) | exact HB.out))) : w.heap.size ≤ gb356)); have n7_ := Aside0.mk ((by rw [hg]; exact Nat.ne_of_lt (blk_lt (g := gb352) (o := .cells #[.int .i64 t349, .int .i64 t350] 38 (0, 0)) (by (with_reducible repeat (first | refine blk_drewN ?_ _ | refine blk_drew ?_ | refine blk_alloc ?_ _)); exact BK352.out)) : gb352 ≠ gb356)); have n8_ := Aside0.mk ((by rw [hg]; exact Nat.ne_of_gt (blk_lt (g := gb352) (o := .cells #[.int .i64 t349, .int .i64 t350] 38 (0, 0)) (by (with_reducible repeat (first | refine blk_drewN ?_ _ | refine blk_drew ?_ | refine blk_alloc ?_ _)); exact BK352.out)) : gb356 ≠ gb352)); clear HO_7; clear HO_9; clear BK352; clear HB; have HO_7 := n0_; have HO_9 := n1_; have BK352 := n2_; have HB := n3_; have BK356 := n4_; have GW356 := n5_; have GE356 := n6_; have NB352_356 := n7_; have NB356_352 := n8_; clear n0_ n1_ n2_ n3_ n4_ n5_ n6_ n7_ n8_; clear hb hbox hg; have hnb83 := NB356_352.out; have hnc83 := NB352_356.out; have hcz84_0 : w82.cell? ⟨gb356, 0, none⟩ = some (.int .i64 0) := (blk_cell BK356.out 0).trans rfl; have hcz84_1 : w82.cell? ⟨gb356, 1, none⟩ = some (.int .i64 0) := (blk_cell BK356.out 1).trans rfl; have hfz84_0 := blk_frozen BK356.out 0; have hfz84_1 := blk_frozen BK356.out 1))
                            go_ret
                            exact ⟨by first | rfl | (simp [errW_none, errW_some] <;> rfl) | (simp [*, errW_none, errW_some] <;> rfl), by repeat (first | (with_reducible first | exact HB.out | apply below_alloc | apply pw_below_drewN | apply below_drew1 | refine below_set ?_ GE352.out | refine below_set ?_ GE356.out) | exact HB.out)⟩
                        · rw [if_neg c27] at H
                          have c27b0 : (t342 == t344) = false := by simpa using c27
                          (try (have c27b1 : decide (t342 = t344) = false := by simpa using c27))
                          (try (have c27b2 : (t342 == t344) = false := by simpa using c27))
                          (try (have c27b3 : ¬ (t342 = t344) := by simpa using c27))
                          clear c27
                          obtain rfl := Option.some.inj H
                          go_wp2_with (first | ((with_reducible refine gate_callee (f := 26) rfl ?_); refine goesL_ (some 64) rfl rfl Try.func26 (by kernel_rfl) rfl #[.int .i64 a0, .slice A1 l1.length c1] rfl (by (try simp only [List.map_toArray, List.map_cons, List.map_nil]); first | done | rfl | (simp only [List.length_drop, List.length_take]; rfl)) ?_; (with_reducible refine (trim_Middle.calls k3 a0 _ _ l1 t341 t342 _ ?side1 ?side2 A20.out).mono ?_); (case side1 => repeat (first | exact (Kd.C_below HR1.out HB.out) | (with_reducible refine Kd.C_alloc ?_ _) | (with_reducible refine Kd.C_drewN ?_ _) | (with_reducible refine Kd.C_drew ?_))); (case side2 => exact HC1.out); rintro e w85 ⟨rfl, hb⟩; refine ⟨_, rfl, ?_⟩; have n0_ := Aside0.mk (Kd.R_below (by (with_reducible repeat (first | apply Kd.R_alloc | apply Kd.R_drewN | apply Kd.R_drew)); exact HO_7.out) hb); have n1_ := Aside0.mk (Kd.R_below (by (with_reducible repeat (first | apply Kd.R_alloc | apply Kd.R_drewN | apply Kd.R_drew)); exact HO_9.out) hb); have n2_ := Aside0.mk (below_step (by repeat (first | (with_reducible first | exact HB.out | apply below_alloc | apply pw_below_drewN | apply below_drew1) | exact HB.out)) hb); clear HO_7; clear HO_9; clear HB; have HO_7 := n0_; have HO_9 := n1_; have HB := n2_; clear n0_ n1_ n2_; (try clear hb); (try clear hb2); (try clear hk); (try clear hi); obtain ⟨Ao86, co86, eo86⟩ := Kd.R_slice HO_7.out; subst eo86) | ((with_reducible refine gate_callee (f := 26) rfl ?_); refine goesL_ (some 70) rfl rfl Try.func26 (by kernel_rfl) rfl #[.int .i64 a0, .slice Ao86 x7_2.length co86] rfl (by (try simp only [List.map_toArray, List.map_cons, List.map_nil]); first | done | rfl | (simp only [List.length_drop, List.length_take]; rfl)) ?_; (with_reducible refine (trim_Middle.calls k3 a0 _ _ x7_2 t343 t344 _ ?side1 ?side2 A21.out).mono ?_); (case side1 => repeat (first | exact (Kd.R_reads' HO_7.out).2.2 | (with_reducible refine Kd.C_alloc ?_ _) | (with_reducible refine Kd.C_drewN ?_ _) | (with_reducible refine Kd.C_drew ?_))); (case side2 => exact (Kd.R_reads' HO_7.out).2.1); rintro e w87 ⟨rfl, hb⟩; refine ⟨_, rfl, ?_⟩; have n0_ := Aside0.mk (Kd.R_below (by (with_reducible repeat (first | apply Kd.R_alloc | apply Kd.R_drewN | apply Kd.R_drew)); exact HO_7.out) hb); have n1_ := Aside0.mk (Kd.R_below (by (with_reducible repeat (first | apply Kd.R_alloc | apply Kd.R_drewN | apply Kd.R_drew)); exact HO_9.out) hb); have n2_ := Aside0.mk (below_step (by repeat (first | (with_reducible first | exact HB.out | apply below_alloc | apply pw_below_drewN | apply below_drew1) | exact HB.out)) hb); clear HO_7; clear HO_9; clear HB; have HO_7 := n0_; have HO_9 := n1_; have HB := n2_; clear n0_ n1_ n2_; (try clear hb); (try clear hb2); (try clear hk); (try clear hi)) | ((with_reducible refine gate_callee (f := 24) rfl ?_); refine goesL_ (some 76) rfl rfl Try.func24 (by kernel_rfl) rfl #[.int .i64 a0, .slice A1 l1.length c1] rfl (by (try simp only [List.map_toArray, List.map_cons, List.map_nil]); first | done | rfl | (simp only [List.length_drop, List.length_take]; rfl)) ?_; (with_reducible refine (trim_Least.calls a0 _ _ l1 t345 t346 _ ?side1 ?side2 A22.out).mono ?_); (case side1 => repeat (first | exact (Kd.C_below HR1.out HB.out) | (with_reducible refine Kd.C_alloc ?_ _) | (with_reducible refine Kd.C_drewN ?_ _) | (with_reducible refine Kd.C_drew ?_))); (case side2 => exact HC1.out); rintro e w88 ⟨rfl, hb⟩; refine ⟨_, rfl, ?_⟩; have n0_ := Aside0.mk (Kd.R_below (by (with_reducible repeat (first | apply Kd.R_alloc | apply Kd.R_drewN | apply Kd.R_drew)); exact HO_7.out) hb); have n1_ := Aside0.mk (Kd.R_below (by (with_reducible repeat (first | apply Kd.R_alloc | apply Kd.R_drewN | apply Kd.R_drew)); exact HO_9.out) hb); have n2_ := Aside0.mk (below_step (by repeat (first | (with_reducible first | exact HB.out | apply below_alloc | apply pw_below_drewN | apply below_drew1) | exact HB.out)) hb); clear HO_7; clear HO_9; clear HB; have HO_7 := n0_; have HO_9 := n1_; have HB := n2_; clear n0_ n1_ n2_; (try clear hb); (try clear hb2); (try clear hk); (try clear hi)) | ((with_reducible refine gate_callee (f := 24) rfl ?_); refine goesL_ (some 82) rfl rfl Try.func24 (by kernel_rfl) rfl #[.int .i64 a0, .slice Ao86 x7_2.length co86] rfl (by (try simp only [List.map_toArray, List.map_cons, List.map_nil]); first | done | rfl | (simp only [List.length_drop, List.length_take]; rfl)) ?_; (with_reducible refine (trim_Least.calls a0 _ _ x7_2 t347 t348 _ ?side1 ?side2 A23.out).mono ?_); (case side1 => repeat (first | exact (Kd.R_reads' HO_7.out).2.2 | (with_reducible refine Kd.C_alloc ?_ _) | (with_reducible refine Kd.C_drewN ?_ _) | (with_reducible refine Kd.C_drew ?_))); (case side2 => exact (Kd.R_reads' HO_7.out).2.1); rintro e w89 ⟨rfl, hb⟩; refine ⟨_, rfl, ?_⟩; have n0_ := Aside0.mk (Kd.R_below (by (with_reducible repeat (first | apply Kd.R_alloc | apply Kd.R_drewN | apply Kd.R_drew)); exact HO_7.out) hb); have n1_ := Aside0.mk (Kd.R_below (by (with_reducible repeat (first | apply Kd.R_alloc | apply Kd.R_drewN | apply Kd.R_drew)); exact HO_9.out) hb); have n2_ := Aside0.mk (below_step (by repeat (first | (with_reducible first | exact HB.out | apply below_alloc | apply pw_below_drewN | apply below_drew1) | exact HB.out)) hb); clear HO_7; clear HO_9; clear HB; have HO_7 := n0_; have HO_9 := n1_; have HB := n2_; clear n0_ n1_ n2_; (try clear hb); (try clear hb2); (try clear hk); (try clear hi)) | ((with_reducible refine gate_callee (f := 31) rfl ?_); refine goesL_ (some 88) rfl rfl Try.func31 (by kernel_rfl) rfl #[.int .i64 a0, .slice A2 l2.length c2] rfl (by (try simp only [List.map_toArray, List.map_cons, List.map_nil]); first | done | rfl | (simp only [List.length_drop, List.length_take]; rfl)) ?_; (with_reducible refine (trim_Fuse.calls k3 a0 _ _ l2 t349 t350 t351 _ ?side1 ?side2 A24.out).mono ?_); (case side1 => repeat (first | exact (Kd.C_below HR2.out HB.out) | (with_reducible refine Kd.C_alloc ?_ _) | (with_reducible refine Kd.C_drewN ?_ _) | (with_reducible refine Kd.C_drew ?_))); (case side2 => exact HC2.out); rintro e w90 ⟨rfl, hb⟩; refine ⟨_, rfl, ?_⟩; have n0_ := Aside0.mk (Kd.R_below (by (with_reducible repeat (first | apply Kd.R_alloc | apply Kd.R_drewN | apply Kd.R_drew)); exact HO_7.out) hb); have n1_ := Aside0.mk (Kd.R_below (by (with_reducible repeat (first | apply Kd.R_alloc | apply Kd.R_drewN | apply Kd.R_drew)); exact HO_9.out) hb); have n2_ := Aside0.mk (below_step (by repeat (first | (with_reducible first | exact HB.out | apply below_alloc | apply pw_below_drewN | apply below_drew1) | exact HB.out)) hb); clear HO_7; clear HO_9; clear HB; have HO_7 := n0_; have HO_9 := n1_; have HB := n2_; clear n0_ n1_ n2_; (try clear hb); (try clear hb2); (try clear hk); (try clear hi)) | ((with_reducible refine gate_dst (N := 19) rfl ?_); (try (refine gate_guard (by rfl) ?_; dsimp only)); refine box_event ?hg (N := 19) ?hd (cs := #[.int .i64 0, .int .i64 0]) (t := 38) ?hr ?_; (case hd => rfl); (case hg => rfl); (case hr => first | (go_simp; done) | (go_simp; rfl)); intro gb352 hg w91 hbox hb; have n0_ := Aside0.mk (Kd.R_below (by (with_reducible repeat (first | apply Kd.R_alloc | apply Kd.R_drewN | apply Kd.R_drew)); exact HO_7.out) hb); have n1_ := Aside0.mk (Kd.R_below (Kd.R_elderB (by (with_reducible repeat (first | apply Kd.R_alloc | apply Kd.R_drewN | apply Kd.R_drew)); exact HO_9.out) gb352 (Nat.le_of_eq hg.symm)) hb); have n2_ := Aside0.mk (below_step (by repeat (first | (with_reducible first | exact HB.out | apply below_alloc | apply pw_below_drewN | apply below_drew1) | exact HB.out)) hb); have n3_ := Aside0.mk (hbox); have n4_ := Aside0.mk ((by rw [hg]; exact (below_size (by repeat (first | (with_reducible first | exact HB.out | apply below_alloc | apply pw_below_drewN | apply below_drew1) | exact HB.out))) : w.heap.size ≤ gb352)); have n5_ := Aside0.mk ((by rw [hg]; exact (below_size (by repeat (first | (with_reducible first | exact HB.out | apply below_alloc | apply pw_below_drewN | apply below_drew1) | exact HB.out))) : w.heap.size ≤ gb352)); clear HO_7; clear HO_9; clear HB; have HO_7 := n0_; have HO_9 := n1_; have HB := n2_; have BK352 := n3_; have GW352 := n4_; have GE352 := n5_; clear n0_ n1_ n2_ n3_ n4_ n5_; clear hb hbox hg; have hcz92_0 : w91.cell? ⟨gb352, 0, none⟩ = some (.int .i64 0) := (blk_cell BK352.out 0).trans rfl; have hcz92_1 : w91.cell? ⟨gb352, 1, none⟩ = some (.int .i64 0) := (blk_cell BK352.out 1).trans rfl; have hfz92_0 := blk_frozen BK352.out 0; have hfz92_1 := blk_frozen BK352.out 1; obtain ⟨Ao93, co93, eo93⟩ := Kd.R_slice HO_9.out; subst eo93) | ((with_reducible refine gate_callee (f := 31) rfl ?_); refine goesL_ (some 94) rfl rfl Try.func31 (by kernel_rfl) rfl #[.int .i64 a0, .slice Ao93 x9_3.length co93] rfl (by (try simp only [List.map_toArray, List.map_cons, List.map_nil]); first | done | rfl | (simp only [List.length_drop, List.length_take]; rfl)) ?_; (with_reducible refine (trim_Fuse.calls k3 a0 _ _ x9_3 t353 t354 t355 _ ?side1 ?side2 A25.out).mono ?_); (case side1 => refine (Kd.R_reads' (e := 38) (base := w.heap.size) (ok := fun k_ => (True ∧ k_ ≠ gb352)) (n := x9_3.length) (c := co93) ?_).2.2; exact (by (with_reducible repeat (first | apply Kd.R_alloc | apply Kd.R_drewN | apply Kd.R_drew)); exact (Kd.R_mono (Kd.R_far (p := ⟨gb352, 1, none⟩) (Kd.R_far (p := ⟨gb352, 0, none⟩) (Kd.R_mono HO_9.out (fun k_ hk => (⟨hk, hk.2⟩ : _ ∧ k_ ≠ gb352))) (fun _ hk => hk.2) (.int .i64 t349)) (fun _ hk => hk.2) (.int .i64 t350)) (fun _ h_ => h_.1)))); (case side2 => exact (Kd.R_reads' HO_9.out).2.1); rintro e w94 ⟨rfl, hb⟩; refine ⟨_, rfl, ?_⟩; have n0_ := Aside0.mk (Kd.R_below (by (with_reducible repeat (first | apply Kd.R_alloc | apply Kd.R_drewN | apply Kd.R_drew)); exact (Kd.R_mono (Kd.R_far (p := ⟨gb352, 1, none⟩) (Kd.R_far (p := ⟨gb352, 0, none⟩) (Kd.R_types HO_7.out BK352.out (by decide)) (fun _ hk => hk.2) (.int .i64 t349)) (fun _ hk => hk.2) (.int .i64 t350)) (fun _ h_ => h_.1))) hb); have n1_ := Aside0.mk (Kd.R_below (by (with_reducible repeat (first | apply Kd.R_alloc | apply Kd.R_drewN | apply Kd.R_drew)); exact (Kd.R_mono (Kd.R_far (p := ⟨gb352, 1, none⟩) (Kd.R_far (p := ⟨gb352, 0, none⟩) (Kd.R_mono HO_9.out (fun k_ hk => (⟨hk, hk.2⟩ : _ ∧ k_ ≠ gb352))) (fun _ hk => hk.2) (.int .i64 t349)) (fun _ hk => hk.2) (.int .i64 t350)) (fun _ h_ => h_.1))) hb); have n2_ := Aside0.mk (blk_below (g := gb352) (o := .cells #[.int .i64 t349, .int .i64 t350] 38 (0, 0)) (by (with_reducible repeat (first | refine blk_drewN ?_ _ | refine blk_drew ?_ | refine blk_alloc ?_ _)); refine blk_put (cs := #[.int .i64 t349, .int .i64 0]) ?_ 1 _ rfl; (with_reducible repeat (first | refine blk_drewN ?_ _ | refine blk_drew ?_ | refine blk_alloc ?_ _)); refine blk_put (cs := #[.int .i64 0, .int .i64 0]) ?_ 0 _ rfl; (with_reducible repeat (first | refine blk_drewN ?_ _ | refine blk_drew ?_ | refine blk_alloc ?_ _)); exact BK352.out) hb); have n3_ := Aside0.mk (below_step (by repeat (first | (with_reducible first | exact HB.out | apply below_alloc | apply pw_below_drewN | apply below_drew1 | refine below_set ?_ GE352.out) | exact HB.out)) hb); clear HO_7; clear HO_9; clear BK352; clear HB; have HO_7 := n0_; have HO_9 := n1_; have BK352 := n2_; have HB := n3_; clear n0_ n1_ n2_ n3_; (try clear hb); (try clear hb2); (try clear hk); (try clear hi)) | ((with_reducible refine gate_dst (N := 21) rfl ?_); (try (refine gate_guard (by rfl) ?_; dsimp only)); refine box_event ?hg (N := 21) ?hd (cs := #[.int .i64 0, .int .i64 0]) (t := 38) ?hr ?_; (case hd => rfl); (case hg => rfl); (case hr => first | (go_simp; done) | (go_simp; rfl)); intro gb356 hg w95 hbox hb; have n0_ := Aside0.mk (Kd.R_below (by (with_reducible repeat (first | apply Kd.R_alloc | apply Kd.R_drewN | apply Kd.R_drew)); exact HO_7.out) hb); have n1_ := Aside0.mk (Kd.R_below (Kd.R_elderB (by (with_reducible repeat (first | apply Kd.R_alloc | apply Kd.R_drewN | apply Kd.R_drew)); exact HO_9.out) gb356 (Nat.le_of_eq hg.symm)) hb); have n2_ := Aside0.mk (blk_below (g := gb352) (o := .cells #[.int .i64 t349, .int .i64 t350] 38 (0, 0)) (by (with_reducible repeat (first | refine blk_drewN ?_ _ | refine blk_drew ?_ | refine blk_alloc ?_ _)); exact BK352.out) hb); have n3_ := Aside0.mk (below_step (by repeat (first | (with_reducible first | exact HB.out | apply below_alloc | apply pw_below_drewN | apply below_drew1 | refine below_set ?_ GE352.out) | exact HB.out)) hb); have n4_ := Aside0.mk (hbox); have n5_ := Aside0.mk ((by rw [hg]; exact (below_size (by repeat (first | (with_reducible first | exact HB.out | apply below_alloc | apply pw_below_drewN | apply below_drew1 | refine below_set ?_ GE352.out) | exact HB.out))) : w.heap.size ≤ gb356)); have n6_ := Aside0.mk ((by rw [hg]; exact (below_size (by repeat (first | (with_reducible first | exact HB.out | apply below_alloc | apply pw_below_drewN | apply below_drew1 | refine below_set ?_ GE352.out) | exact HB.out))) : w.heap.size ≤ gb356)); have n7_ := Aside0.mk ((by rw [hg]; exact Nat.ne_of_lt (blk_lt (g := gb352) (o := .cells #[.int .i64 t349, .int .i64 t350] 38 (0, 0)) (by (with_reducible repeat (first | refine blk_drewN ?_ _ | refine blk_drew ?_ | refine blk_alloc ?_ _)); exact BK352.out)) : gb352 ≠ gb356)); have n8_ := Aside0.mk ((by rw [hg]; exact Nat.ne_of_gt (blk_lt (g := gb352) (o := .cells #[.int .i64 t349, .int .i64 t350] 38 (0, 0)) (by (with_reducible repeat (first | refine blk_drewN ?_ _ | refine blk_drew ?_ | refine blk_alloc ?_ _)); exact BK352.out)) : gb356 ≠ gb352)); clear HO_7; clear HO_9; clear BK352; clear HB; have HO_7 := n0_; have HO_9 := n1_; have BK352 := n2_; have HB := n3_; have BK356 := n4_; have GW356 := n5_; have GE356 := n6_; have NB352_356 := n7_; have NB356_352 := n8_; clear n0_ n1_ n2_ n3_ n4_ n5_ n6_ n7_ n8_; clear hb hbox hg; have hnb96 := NB356_352.out; have hnc96 := NB352_356.out; have hcz97_0 : w95.cell? ⟨gb356, 0, none⟩ = some (.int .i64 0) := (blk_cell BK356.out 0).trans rfl; have hcz97_1 : w95.cell? ⟨gb356, 1, none⟩ = some (.int .i64 0) := (blk_cell BK356.out 1).trans rfl; have hfz97_0 := blk_frozen BK356.out 0; have hfz97_1 := blk_frozen BK356.out 1))
                          go_ret
                          exact ⟨by first | rfl | (simp [errW_none, errW_some] <;> rfl) | (simp [*, errW_none, errW_some] <;> rfl), by repeat (first | (with_reducible first | exact HB.out | apply below_alloc | apply pw_below_drewN | apply below_drew1 | refine below_set ?_ GE352.out | refine below_set ?_ GE356.out) | exact HB.out)⟩
                      · rw [if_neg c26] at H
                        have c26b0 : (t341 == t343) = false := beq_eq_false_iff_ne.mpr c26
                        have c26b1 : (t341 != t343) = true := bne_iff_ne.mpr c26
                        obtain rfl := Option.some.inj H
                        go_wp2_with (first | ((with_reducible refine gate_callee (f := 26) rfl ?_); refine goesL_ (some 64) rfl rfl Try.func26 (by kernel_rfl) rfl #[.int .i64 a0, .slice A1 l1.length c1] rfl (by (try simp only [List.map_toArray, List.map_cons, List.map_nil]); first | done | rfl | (simp only [List.length_drop, List.length_take]; rfl)) ?_; (with_reducible refine (trim_Middle.calls k3 a0 _ _ l1 t341 t342 _ ?side1 ?side2 A20.out).mono ?_); (case side1 => repeat (first | exact (Kd.C_below HR1.out HB.out) | (with_reducible refine Kd.C_alloc ?_ _) | (with_reducible refine Kd.C_drewN ?_ _) | (with_reducible refine Kd.C_drew ?_))); (case side2 => exact HC1.out); rintro e w98 ⟨rfl, hb⟩; refine ⟨_, rfl, ?_⟩; have n0_ := Aside0.mk (Kd.R_below (by (with_reducible repeat (first | apply Kd.R_alloc | apply Kd.R_drewN | apply Kd.R_drew)); exact HO_7.out) hb); have n1_ := Aside0.mk (Kd.R_below (by (with_reducible repeat (first | apply Kd.R_alloc | apply Kd.R_drewN | apply Kd.R_drew)); exact HO_9.out) hb); have n2_ := Aside0.mk (below_step (by repeat (first | (with_reducible first | exact HB.out | apply below_alloc | apply pw_below_drewN | apply below_drew1) | exact HB.out)) hb); clear HO_7; clear HO_9; clear HB; have HO_7 := n0_; have HO_9 := n1_; have HB := n2_; clear n0_ n1_ n2_; (try clear hb); (try clear hb2); (try clear hk); (try clear hi); obtain ⟨Ao99, co99, eo99⟩ := Kd.R_slice HO_7.out; subst eo99) | ((with_reducible refine gate_callee (f := 26) rfl ?_); refine goesL_ (some 70) rfl rfl Try.func26 (by kernel_rfl) rfl #[.int .i64 a0, .slice Ao99 x7_2.length co99] rfl (by (try simp only [List.map_toArray, List.map_cons, List.map_nil]); first | done | rfl | (simp only [List.length_drop, List.length_take]; rfl)) ?_; (with_reducible refine (trim_Middle.calls k3 a0 _ _ x7_2 t343 t344 _ ?side1 ?side2 A21.out).mono ?_); (case side1 => repeat (first | exact (Kd.R_reads' HO_7.out).2.2 | (with_reducible refine Kd.C_alloc ?_ _) | (with_reducible refine Kd.C_drewN ?_ _) | (with_reducible refine Kd.C_drew ?_))); (case side2 => exact (Kd.R_reads' HO_7.out).2.1); rintro e w100 ⟨rfl, hb⟩; refine ⟨_, rfl, ?_⟩; have n0_ := Aside0.mk (Kd.R_below (by (with_reducible repeat (first | apply Kd.R_alloc | apply Kd.R_drewN | apply Kd.R_drew)); exact HO_7.out) hb); have n1_ := Aside0.mk (Kd.R_below (by (with_reducible repeat (first | apply Kd.R_alloc | apply Kd.R_drewN | apply Kd.R_drew)); exact HO_9.out) hb); have n2_ := Aside0.mk (below_step (by repeat (first | (with_reducible first | exact HB.out | apply below_alloc | apply pw_below_drewN | apply below_drew1) | exact HB.out)) hb); clear HO_7; clear HO_9; clear HB; have HO_7 := n0_; have HO_9 := n1_; have HB := n2_; clear n0_ n1_ n2_; (try clear hb); (try clear hb2); (try clear hk); (try clear hi)) | ((with_reducible refine gate_callee (f := 24) rfl ?_); refine goesL_ (some 76) rfl rfl Try.func24 (by kernel_rfl) rfl #[.int .i64 a0, .slice A1 l1.length c1] rfl (by (try simp only [List.map_toArray, List.map_cons, List.map_nil]); first | done | rfl | (simp only [List.length_drop, List.length_take]; rfl)) ?_; (with_reducible refine (trim_Least.calls a0 _ _ l1 t345 t346 _ ?side1 ?side2 A22.out).mono ?_); (case side1 => repeat (first | exact (Kd.C_below HR1.out HB.out) | (with_reducible refine Kd.C_alloc ?_ _) | (with_reducible refine Kd.C_drewN ?_ _) | (with_reducible refine Kd.C_drew ?_))); (case side2 => exact HC1.out); rintro e w101 ⟨rfl, hb⟩; refine ⟨_, rfl, ?_⟩; have n0_ := Aside0.mk (Kd.R_below (by (with_reducible repeat (first | apply Kd.R_alloc | apply Kd.R_drewN | apply Kd.R_drew)); exact HO_7.out) hb); have n1_ := Aside0.mk (Kd.R_below (by (with_reducible repeat (first | apply Kd.R_alloc | apply Kd.R_drewN | apply Kd.R_drew)); exact HO_9.out) hb); have n2_ := Aside0.mk (below_step (by repeat (first | (with_reducible first | exact HB.out | apply below_alloc | apply pw_below_drewN | apply below_drew1) | exact HB.out)) hb); clear HO_7; clear HO_9; clear HB; have HO_7 := n0_; have HO_9 := n1_; have HB := n2_; clear n0_ n1_ n2_; (try clear hb); (try clear hb2); (try clear hk); (try clear hi)) | ((with_reducible refine gate_callee (f := 24) rfl ?_); refine goesL_ (some 82) rfl rfl Try.func24 (by kernel_rfl) rfl #[.int .i64 a0, .slice Ao99 x7_2.length co99] rfl (by (try simp only [List.map_toArray, List.map_cons, List.map_nil]); first | done | rfl | (simp only [List.length_drop, List.length_take]; rfl)) ?_; (with_reducible refine (trim_Least.calls a0 _ _ x7_2 t347 t348 _ ?side1 ?side2 A23.out).mono ?_); (case side1 => repeat (first | exact (Kd.R_reads' HO_7.out).2.2 | (with_reducible refine Kd.C_alloc ?_ _) | (with_reducible refine Kd.C_drewN ?_ _) | (with_reducible refine Kd.C_drew ?_))); (case side2 => exact (Kd.R_reads' HO_7.out).2.1); rintro e w102 ⟨rfl, hb⟩; refine ⟨_, rfl, ?_⟩; have n0_ := Aside0.mk (Kd.R_below (by (with_reducible repeat (first | apply Kd.R_alloc | apply Kd.R_drewN | apply Kd.R_drew)); exact HO_7.out) hb); have n1_ := Aside0.mk (Kd.R_below (by (with_reducible repeat (first | apply Kd.R_alloc | apply Kd.R_drewN | apply Kd.R_drew)); exact HO_9.out) hb); have n2_ := Aside0.mk (below_step (by repeat (first | (with_reducible first | exact HB.out | apply below_alloc | apply pw_below_drewN | apply below_drew1) | exact HB.out)) hb); clear HO_7; clear HO_9; clear HB; have HO_7 := n0_; have HO_9 := n1_; have HB := n2_; clear n0_ n1_ n2_; (try clear hb); (try clear hb2); (try clear hk); (try clear hi)) | ((with_reducible refine gate_callee (f := 31) rfl ?_); refine goesL_ (some 88) rfl rfl Try.func31 (by kernel_rfl) rfl #[.int .i64 a0, .slice A2 l2.length c2] rfl (by (try simp only [List.map_toArray, List.map_cons, List.map_nil]); first | done | rfl | (simp only [List.length_drop, List.length_take]; rfl)) ?_; (with_reducible refine (trim_Fuse.calls k3 a0 _ _ l2 t349 t350 t351 _ ?side1 ?side2 A24.out).mono ?_); (case side1 => repeat (first | exact (Kd.C_below HR2.out HB.out) | (with_reducible refine Kd.C_alloc ?_ _) | (with_reducible refine Kd.C_drewN ?_ _) | (with_reducible refine Kd.C_drew ?_))); (case side2 => exact HC2.out); rintro e w103 ⟨rfl, hb⟩; refine ⟨_, rfl, ?_⟩; have n0_ := Aside0.mk (Kd.R_below (by (with_reducible repeat (first | apply Kd.R_alloc | apply Kd.R_drewN | apply Kd.R_drew)); exact HO_7.out) hb); have n1_ := Aside0.mk (Kd.R_below (by (with_reducible repeat (first | apply Kd.R_alloc | apply Kd.R_drewN | apply Kd.R_drew)); exact HO_9.out) hb); have n2_ := Aside0.mk (below_step (by repeat (first | (with_reducible first | exact HB.out | apply below_alloc | apply pw_below_drewN | apply below_drew1) | exact HB.out)) hb); clear HO_7; clear HO_9; clear HB; have HO_7 := n0_; have HO_9 := n1_; have HB := n2_; clear n0_ n1_ n2_; (try clear hb); (try clear hb2); (try clear hk); (try clear hi)) | ((with_reducible refine gate_dst (N := 19) rfl ?_); (try (refine gate_guard (by rfl) ?_; dsimp only)); refine box_event ?hg (N := 19) ?hd (cs := #[.int .i64 0, .int .i64 0]) (t := 38) ?hr ?_; (case hd => rfl); (case hg => rfl); (case hr => first | (go_simp; done) | (go_simp; rfl)); intro gb352 hg w104 hbox hb; have n0_ := Aside0.mk (Kd.R_below (by (with_reducible repeat (first | apply Kd.R_alloc | apply Kd.R_drewN | apply Kd.R_drew)); exact HO_7.out) hb); have n1_ := Aside0.mk (Kd.R_below (Kd.R_elderB (by (with_reducible repeat (first | apply Kd.R_alloc | apply Kd.R_drewN | apply Kd.R_drew)); exact HO_9.out) gb352 (Nat.le_of_eq hg.symm)) hb); have n2_ := Aside0.mk (below_step (by repeat (first | (with_reducible first | exact HB.out | apply below_alloc | apply pw_below_drewN | apply below_drew1) | exact HB.out)) hb); have n3_ := Aside0.mk (hbox); have n4_ := Aside0.mk ((by rw [hg]; exact (below_size (by repeat (first | (with_reducible first | exact HB.out | apply below_alloc | apply pw_below_drewN | apply below_drew1) | exact HB.out))) : w.heap.size ≤ gb352)); have n5_ := Aside0.mk ((by rw [hg]; exact (below_size (by repeat (first | (with_reducible first | exact HB.out | apply below_alloc | apply pw_below_drewN | apply below_drew1) | exact HB.out))) : w.heap.size ≤ gb352)); clear HO_7; clear HO_9; clear HB; have HO_7 := n0_; have HO_9 := n1_; have HB := n2_; have BK352 := n3_; have GW352 := n4_; have GE352 := n5_; clear n0_ n1_ n2_ n3_ n4_ n5_; clear hb hbox hg; have hcz105_0 : w104.cell? ⟨gb352, 0, none⟩ = some (.int .i64 0) := (blk_cell BK352.out 0).trans rfl; have hcz105_1 : w104.cell? ⟨gb352, 1, none⟩ = some (.int .i64 0) := (blk_cell BK352.out 1).trans rfl; have hfz105_0 := blk_frozen BK352.out 0; have hfz105_1 := blk_frozen BK352.out 1; obtain ⟨Ao106, co106, eo106⟩ := Kd.R_slice HO_9.out; subst eo106) | ((with_reducible refine gate_callee (f := 31) rfl ?_); refine goesL_ (some 94) rfl rfl Try.func31 (by kernel_rfl) rfl #[.int .i64 a0, .slice Ao106 x9_3.length co106] rfl (by (try simp only [List.map_toArray, List.map_cons, List.map_nil]); first | done | rfl | (simp only [List.length_drop, List.length_take]; rfl)) ?_; (with_reducible refine (trim_Fuse.calls k3 a0 _ _ x9_3 t353 t354 t355 _ ?side1 ?side2 A25.out).mono ?_); (case side1 => refine (Kd.R_reads' (e := 38) (base := w.heap.size) (ok := fun k_ => (True ∧ k_ ≠ gb352)) (n := x9_3.length) (c := co106) ?_).2.2; exact (by (with_reducible repeat (first | apply Kd.R_alloc | apply Kd.R_drewN | apply Kd.R_drew)); exact (Kd.R_mono (Kd.R_far (p := ⟨gb352, 1, none⟩) (Kd.R_far (p := ⟨gb352, 0, none⟩) (Kd.R_mono HO_9.out (fun k_ hk => (⟨hk, hk.2⟩ : _ ∧ k_ ≠ gb352))) (fun _ hk => hk.2) (.int .i64 t349)) (fun _ hk => hk.2) (.int .i64 t350)) (fun _ h_ => h_.1)))); (case side2 => exact (Kd.R_reads' HO_9.out).2.1); rintro e w107 ⟨rfl, hb⟩; refine ⟨_, rfl, ?_⟩; have n0_ := Aside0.mk (Kd.R_below (by (with_reducible repeat (first | apply Kd.R_alloc | apply Kd.R_drewN | apply Kd.R_drew)); exact (Kd.R_mono (Kd.R_far (p := ⟨gb352, 1, none⟩) (Kd.R_far (p := ⟨gb352, 0, none⟩) (Kd.R_types HO_7.out BK352.out (by decide)) (fun _ hk => hk.2) (.int .i64 t349)) (fun _ hk => hk.2) (.int .i64 t350)) (fun _ h_ => h_.1))) hb); have n1_ := Aside0.mk (Kd.R_below (by (with_reducible repeat (first | apply Kd.R_alloc | apply Kd.R_drewN | apply Kd.R_drew)); exact (Kd.R_mono (Kd.R_far (p := ⟨gb352, 1, none⟩) (Kd.R_far (p := ⟨gb352, 0, none⟩) (Kd.R_mono HO_9.out (fun k_ hk => (⟨hk, hk.2⟩ : _ ∧ k_ ≠ gb352))) (fun _ hk => hk.2) (.int .i64 t349)) (fun _ hk => hk.2) (.int .i64 t350)) (fun _ h_ => h_.1))) hb); have n2_ := Aside0.mk (blk_below (g := gb352) (o := .cells #[.int .i64 t349, .int .i64 t350] 38 (0, 0)) (by (with_reducible repeat (first | refine blk_drewN ?_ _ | refine blk_drew ?_ | refine blk_alloc ?_ _)); refine blk_put (cs := #[.int .i64 t349, .int .i64 0]) ?_ 1 _ rfl; (with_reducible repeat (first | refine blk_drewN ?_ _ | refine blk_drew ?_ | refine blk_alloc ?_ _)); refine blk_put (cs := #[.int .i64 0, .int .i64 0]) ?_ 0 _ rfl; (with_reducible repeat (first | refine blk_drewN ?_ _ | refine blk_drew ?_ | refine blk_alloc ?_ _)); exact BK352.out) hb); have n3_ := Aside0.mk (below_step (by repeat (first | (with_reducible first | exact HB.out | apply below_alloc | apply pw_below_drewN | apply below_drew1 | refine below_set ?_ GE352.out) | exact HB.out)) hb); clear HO_7; clear HO_9; clear BK352; clear HB; have HO_7 := n0_; have HO_9 := n1_; have BK352 := n2_; have HB := n3_; clear n0_ n1_ n2_ n3_; (try clear hb); (try clear hb2); (try clear hk); (try clear hi)) | ((with_reducible refine gate_dst (N := 21) rfl ?_); (try (refine gate_guard (by rfl) ?_; dsimp only)); refine box_event ?hg (N := 21) ?hd (cs := #[.int .i64 0, .int .i64 0]) (t := 38) ?hr ?_; (case hd => rfl); (case hg => rfl); (case hr => first | (go_simp; done) | (go_simp; rfl)); intro gb356 hg w108 hbox hb; have n0_ := Aside0.mk (Kd.R_below (by (with_reducible repeat (first | apply Kd.R_alloc | apply Kd.R_drewN | apply Kd.R_drew)); exact HO_7.out) hb); have n1_ := Aside0.mk (Kd.R_below (Kd.R_elderB (by (with_reducible repeat (first | apply Kd.R_alloc | apply Kd.R_drewN | apply Kd.R_drew)); exact HO_9.out) gb356 (Nat.le_of_eq hg.symm)) hb); have n2_ := Aside0.mk (blk_below (g := gb352) (o := .cells #[.int .i64 t349, .int .i64 t350] 38 (0, 0)) (by (with_reducible repeat (first | refine blk_drewN ?_ _ | refine blk_drew ?_ | refine blk_alloc ?_ _)); exact BK352.out) hb); have n3_ := Aside0.mk (below_step (by repeat (first | (with_reducible first | exact HB.out | apply below_alloc | apply pw_below_drewN | apply below_drew1 | refine below_set ?_ GE352.out) | exact HB.out)) hb); have n4_ := Aside0.mk (hbox); have n5_ := Aside0.mk ((by rw [hg]; exact (below_size (by repeat (first | (with_reducible first | exact HB.out | apply below_alloc | apply pw_below_drewN | apply below_drew1 | refine below_set ?_ GE352.out) | exact HB.out))) : w.heap.size ≤ gb356)); have n6_ := Aside0.mk ((by rw [hg]; exact (below_size (by repeat (first | (with_reducible first | exact HB.out | apply below_alloc | apply pw_below_drewN | apply below_drew1 | refine below_set ?_ GE352.out) | exact HB.out))) : w.heap.size ≤ gb356)); have n7_ := Aside0.mk ((by rw [hg]; exact Nat.ne_of_lt (blk_lt (g := gb352) (o := .cells #[.int .i64 t349, .int .i64 t350] 38 (0, 0)) (by (with_reducible repeat (first | refine blk_drewN ?_ _ | refine blk_drew ?_ | refine blk_alloc ?_ _)); exact BK352.out)) : gb352 ≠ gb356)); have n8_ := Aside0.mk ((by rw [hg]; exact Nat.ne_of_gt (blk_lt (g := gb352) (o := .cells #[.int .i64 t349, .int .i64 t350] 38 (0, 0)) (by (with_reducible repeat (first | refine blk_drewN ?_ _ | refine blk_drew ?_ | refine blk_alloc ?_ _)); exact BK352.out)) : gb356 ≠ gb352)); clear HO_7; clear HO_9; clear BK352; clear HB; have HO_7 := n0_; have HO_9 := n1_; have BK352 := n2_; have HB := n3_; have BK356 := n4_; have GW356 := n5_; have GE356 := n6_; have NB352_356 := n7_; have NB356_352 := n8_; clear n0_ n1_ n2_ n3_ n4_ n5_ n6_ n7_ n8_; clear hb hbox hg; have hnb109 := NB356_352.out; have hnc109 := NB352_356.out; have hcz110_0 : w108.cell? ⟨gb356, 0, none⟩ = some (.int .i64 0) := (blk_cell BK356.out 0).trans rfl; have hcz110_1 : w108.cell? ⟨gb356, 1, none⟩ = some (.int .i64 0) := (blk_cell BK356.out 1).trans rfl; have hfz110_0 := blk_frozen BK356.out 0; have hfz110_1 := blk_frozen BK356.out 1))
                        go_ret
                        exact ⟨by first | rfl | (simp [errW_none, errW_some] <;> rfl) | (simp [*, errW_none, errW_some] <;> rfl), by repeat (first | (with_reducible first | exact HB.out | apply below_alloc | apply pw_below_drewN | apply below_drew1 | refine below_set ?_ GE352.out | refine below_set ?_ GE356.out) | exact HB.out)⟩
  · replace c5 := Bool.eq_false_iff.mpr c5
    subst c5
    have H1 : (some false) = some r := by rw [if_neg (show ¬ (false = true) by decide)] at H; exact H
    clear H
    have H := H1
    clear H1
    obtain rfl := Option.some.inj H
    go_enter Try.func11, Try.ntmps11
    go_wp2_with (first | ((with_reducible refine gate_callee (f := 30) rfl ?_); refine goesL_ (some 23) rfl rfl Try.func30 (by kernel_rfl) rfl #[] rfl (by (try simp only [List.map_toArray, List.map_cons, List.map_nil]); first | done | rfl | (simp only [List.length_drop, List.length_take]; rfl)) ?_; (with_reducible refine (clepsydralaw07_alive.calls k  false _ A4.out).mono ?_); rintro e w111 ⟨rfl, hb⟩; refine ⟨_, rfl, ?_⟩; have n0_ := Aside0.mk (below_step (by repeat (first | (with_reducible first | exact HB.out | apply below_alloc | apply pw_below_drewN | apply below_drew1) | exact HB.out)) hb); clear HB; have HB := n0_; clear n0_; (try clear hb); (try clear hb2); (try clear hk); (try clear hi)))
    go_ret
    exact ⟨by first | rfl | (simp [errW_none, errW_some] <;> rfl) | (simp [*, errW_none, errW_some] <;> rfl), by repeat (first | (with_reducible first | exact HB.out | apply below_alloc | apply pw_below_drewN | apply below_drew1) | exact HB.out)⟩

end Go.Proofs.Ytdnddekoankmmaa.Q
