-- Laid by a program of this session out of the translation (over the print of the kit); Lean checks it.
import Derived.Test.YtdnddekoankmmaaJ0
import Derived.Test.YtdnddekoankmmaaJ11
import Derived.Test.YtdnddekoankmmaaJ12
import Derived.Test.YtdnddekoankmmaaAg
import Derived.Test.YtdnddekoankmmaaJg
namespace Go.Proofs.Ytdnddekoankmmaa.J
open Go.RowKit Go.Proofs.YtdnddekoankmmaaW.PrintWords Go.Proofs.YtdnddekoankmmaaW.PrintLast Go.Proofs.YtdnddekoankmmaaW.PrintMore
attribute [local go_sem] max2_int min2_int max_two min_two max_three min_three max_four min_four   -- for this text's walks alone
set_option linter.unusedVariables false
set_option linter.unusedSimpArgs false

/-! ### clepsydralaw07_TrimVotes: function 12 -/
mutual
def clepsydralaw07_TrimVotes.j0 : Nat → Int → List Int → List Bool → Int → Bool → Option (Bool)
  | 0, _, _, _, _, _ => none
  | k + 1, x0, x1, x2, x3, x34 => if x34 = true then (some true) else (clepsydralaw07_TrimVotes.l0 k x0 x1 x2 x3 0 true 0 x2 (x2.length : Int) 0)
def clepsydralaw07_TrimVotes.l0 : Nat → Int → List Int → List Bool → Int → Int → Bool → Int → List Bool → Int → Int → Option (Bool)
  | 0, _, _, _, _, _, _, _, _, _, _ => none
  | k + 1, x0, x1, x2, x3, x9, x10, x11, x35, x36, x37 => if x37 < x36 then (if 0 ≤ x37 then (if x37 < (x35.length : Int) then (if rdOf false x35 x37 = true then (if x10 = true then (if x37 < (x1.length : Int) then (clepsydralaw07_TrimVotes.l0 k x0 x1 x2 x3 x9 ((rd x1 x37) == x3) (wrap64 (x11 + 1)) x35 x36 (wrap64 (x37 + 1))) else (none)) else (clepsydralaw07_TrimVotes.l0 k x0 x1 x2 x3 x9 false (wrap64 (x11 + 1)) x35 x36 (wrap64 (x37 + 1)))) else (clepsydralaw07_TrimVotes.l0 k x0 x1 x2 x3 (wrap64 (x9 + 1)) x10 x11 x35 x36 (wrap64 (x37 + 1)))) else (none)) else (none)) else (if x9 > x0 then (some true) else ((trim_Agreed_int.f x0 x1).bind fun bt270 => (if x10 = true then (if x11 > x0 then (if bt270.2 = true then (clepsydralaw07_TrimVotes.j2 k x1 x2 bt270.1 bt270.2 (bt270.1 != x3)) else (clepsydralaw07_TrimVotes.j2 k x1 x2 bt270.1 bt270.2 true)) else (clepsydralaw07_TrimVotes.j2 k x1 x2 bt270.1 bt270.2 false)) else (clepsydralaw07_TrimVotes.j2 k x1 x2 bt270.1 bt270.2 false))))
def clepsydralaw07_TrimVotes.j2 : Nat → List Int → List Bool → Int → Bool → Bool → Option (Bool)
  | 0, _, _, _, _, _ => none
  | k + 1, x1, x2, x14, x15, x81 => if x81 = true then (some false) else (clepsydralaw07_TrimVotes.l1 k x1 x14 (!x15) x2 (x2.length : Int) 0)
def clepsydralaw07_TrimVotes.l1 : Nat → List Int → Int → Bool → List Bool → Int → Int → Option (Bool)
  | 0, _, _, _, _, _, _ => none
  | k + 1, x1, x14, x16, x84, x85, x86 => if x86 < x85 then (if 0 ≤ x86 then (if x86 < (x84.length : Int) then (if x16 = true then (clepsydralaw07_TrimVotes.l1 k x1 x14 true x84 x85 (wrap64 (x86 + 1))) else (if rdOf false x84 x86 = true then (if x86 < (x1.length : Int) then (clepsydralaw07_TrimVotes.l1 k x1 x14 ((rd x1 x86) == x14) x84 x85 (wrap64 (x86 + 1))) else (none)) else (clepsydralaw07_TrimVotes.l1 k x1 x14 false x84 x85 (wrap64 (x86 + 1))))) else (none)) else (none)) else (some x16)
end
def clepsydralaw07_TrimVotes.f (k : Nat) (a0 : Int) (l1 : List Int) (l2 : List Bool) (a3 : Int) : Option (Bool) := (clepsydralaw07_alive.f k).bind fun t267 => (if t267 = true then (if (l1.length : Int) > 256 then (clepsydralaw07_TrimVotes.j0 k a0 l1 l2 a3 true) else (if a0 < 0 then (clepsydralaw07_TrimVotes.j0 k a0 l1 l2 a3 true) else (clepsydralaw07_TrimVotes.j0 k a0 l1 l2 a3 ((l2.length : Int) != (l1.length : Int))))) else (some false))
theorem clepsydralaw07_TrimVotes.mono_l : ∀ k, (∀ y0 y1 y2 y3 y4, LeO (clepsydralaw07_TrimVotes.j0 k y0 y1 y2 y3 y4) (clepsydralaw07_TrimVotes.j0 (k + 1) y0 y1 y2 y3 y4)) ∧ (∀ y0 y1 y2 y3 y4 y5 y6 y7 y8 y9, LeO (clepsydralaw07_TrimVotes.l0 k y0 y1 y2 y3 y4 y5 y6 y7 y8 y9) (clepsydralaw07_TrimVotes.l0 (k + 1) y0 y1 y2 y3 y4 y5 y6 y7 y8 y9)) ∧ (∀ y0 y1 y2 y3 y4, LeO (clepsydralaw07_TrimVotes.j2 k y0 y1 y2 y3 y4) (clepsydralaw07_TrimVotes.j2 (k + 1) y0 y1 y2 y3 y4)) ∧ (∀ y0 y1 y2 y3 y4 y5, LeO (clepsydralaw07_TrimVotes.l1 k y0 y1 y2 y3 y4 y5) (clepsydralaw07_TrimVotes.l1 (k + 1) y0 y1 y2 y3 y4 y5))
  | 0 => ⟨fun _ _ _ _ _ r h => by simp [clepsydralaw07_TrimVotes.j0] at h, fun _ _ _ _ _ _ _ _ _ _ r h => by simp [clepsydralaw07_TrimVotes.l0] at h, fun _ _ _ _ _ r h => by simp [clepsydralaw07_TrimVotes.j2] at h, fun _ _ _ _ _ _ r h => by simp [clepsydralaw07_TrimVotes.l1] at h⟩
  | k + 1 => by
    obtain ⟨ih0, ih1, ih2, ih3⟩ := clepsydralaw07_TrimVotes.mono_l k
    refine ⟨?_, ?_, ?_, ?_⟩
    · intro y0 y1 y2 y3 y4
      unfold clepsydralaw07_TrimVotes.j0
      repeat' first
      | (with_reducible exact ih0 _ _ _ _ _)
      | (with_reducible exact ih1 _ _ _ _ _ _ _ _ _ _)
      | (with_reducible exact ih2 _ _ _ _ _)
      | (with_reducible exact ih3 _ _ _ _ _ _)
      | (with_reducible exact clepsydralaw07_alive.mono _)
      | (with_reducible exact LeO.refl _)
      | (with_reducible exact LeO.none _)
      | (with_reducible refine LeO.ite ?_ ?_)
      | (with_reducible refine LeO.bind ?_ (fun _ => ?_))
      | exact ih0 _ _ _ _ _
      | exact ih1 _ _ _ _ _ _ _ _ _ _
      | exact ih2 _ _ _ _ _
      | exact ih3 _ _ _ _ _ _
      | exact clepsydralaw07_alive.mono _
      | exact LeO.none _
      | refine LeO.ite ?_ ?_
      | refine LeO.bind ?_ (fun _ => ?_)
    · intro y0 y1 y2 y3 y4 y5 y6 y7 y8 y9
      unfold clepsydralaw07_TrimVotes.l0
      repeat' first
      | (with_reducible exact ih0 _ _ _ _ _)
      | (with_reducible exact ih1 _ _ _ _ _ _ _ _ _ _)
      | (with_reducible exact ih2 _ _ _ _ _)
      | (with_reducible exact ih3 _ _ _ _ _ _)
      | (with_reducible exact clepsydralaw07_alive.mono _)
      | (with_reducible exact LeO.refl _)
      | (with_reducible exact LeO.none _)
      | (with_reducible refine LeO.ite ?_ ?_)
      | (with_reducible refine LeO.bind ?_ (fun _ => ?_))
      | exact ih0 _ _ _ _ _
      | exact ih1 _ _ _ _ _ _ _ _ _ _
      | exact ih2 _ _ _ _ _
      | exact ih3 _ _ _ _ _ _
      | exact clepsydralaw07_alive.mono _
      | exact LeO.none _
      | refine LeO.ite ?_ ?_
      | refine LeO.bind ?_ (fun _ => ?_)
    · intro y0 y1 y2 y3 y4
      unfold clepsydralaw07_TrimVotes.j2
      repeat' first
      | (with_reducible exact ih0 _ _ _ _ _)
      | (with_reducible exact ih1 _ _ _ _ _ _ _ _ _ _)
      | (with_reducible exact ih2 _ _ _ _ _)
      | (with_reducible exact ih3 _ _ _ _ _ _)
      | (with_reducible exact clepsydralaw07_alive.mono _)
      | (with_reducible exact LeO.refl _)
      | (with_reducible exact LeO.none _)
      | (with_reducible refine LeO.ite ?_ ?_)
      | (with_reducible refine LeO.bind ?_ (fun _ => ?_))
      | exact ih0 _ _ _ _ _
      | exact ih1 _ _ _ _ _ _ _ _ _ _
      | exact ih2 _ _ _ _ _
      | exact ih3 _ _ _ _ _ _
      | exact clepsydralaw07_alive.mono _
      | exact LeO.none _
      | refine LeO.ite ?_ ?_
      | refine LeO.bind ?_ (fun _ => ?_)
    · intro y0 y1 y2 y3 y4 y5
      unfold clepsydralaw07_TrimVotes.l1
      repeat' first
      | (with_reducible exact ih0 _ _ _ _ _)
      | (with_reducible exact ih1 _ _ _ _ _ _ _ _ _ _)
      | (with_reducible exact ih2 _ _ _ _ _)
      | (with_reducible exact ih3 _ _ _ _ _ _)
      | (with_reducible exact clepsydralaw07_alive.mono _)
      | (with_reducible exact LeO.refl _)
      | (with_reducible exact LeO.none _)
      | (with_reducible refine LeO.ite ?_ ?_)
      | (with_reducible refine LeO.bind ?_ (fun _ => ?_))
      | exact ih0 _ _ _ _ _
      | exact ih1 _ _ _ _ _ _ _ _ _ _
      | exact ih2 _ _ _ _ _
      | exact ih3 _ _ _ _ _ _
      | exact clepsydralaw07_alive.mono _
      | exact LeO.none _
      | refine LeO.ite ?_ ?_
      | refine LeO.bind ?_ (fun _ => ?_)
theorem clepsydralaw07_TrimVotes.mono : ∀ a0 a1 a2 a3 k, LeO (clepsydralaw07_TrimVotes.f k a0 a1 a2 a3) (clepsydralaw07_TrimVotes.f (k + 1) a0 a1 a2 a3) := by
  intro a0 a1 a2 a3 k
  obtain ⟨ih0, ih1, ih2, ih3⟩ := clepsydralaw07_TrimVotes.mono_l k
  unfold clepsydralaw07_TrimVotes.f
  repeat' first
      | (with_reducible exact ih0 _ _ _ _ _)
      | (with_reducible exact ih1 _ _ _ _ _ _ _ _ _ _)
      | (with_reducible exact ih2 _ _ _ _ _)
      | (with_reducible exact ih3 _ _ _ _ _ _)
      | (with_reducible exact clepsydralaw07_alive.mono _)
      | (with_reducible exact LeO.refl _)
      | (with_reducible exact LeO.none _)
      | (with_reducible refine LeO.ite ?_ ?_)
      | (with_reducible refine LeO.bind ?_ (fun _ => ?_))
      | exact ih0 _ _ _ _ _
      | exact ih1 _ _ _ _ _ _ _ _ _ _
      | exact ih2 _ _ _ _ _
      | exact ih3 _ _ _ _ _ _
      | exact clepsydralaw07_alive.mono _
      | exact LeO.none _
      | refine LeO.ite ?_ ?_
      | refine LeO.bind ?_ (fun _ => ?_)
set_option maxHeartbeats 8000000 in
set_option maxRecDepth 100000 in
theorem clepsydralaw07_TrimVotes.calls (k : Nat) (a0 : Int) (A1 : Option Addr) (c1 : Nat) (l1 : List Int) (A2 : Option Addr) (c2 : Nat) (l2 : List Bool) (a3 : Int) (r : Bool) (w : World) (hr1 : Kd.C (Kd.int .i64) w A1 l1.length l1) (hc1 : l1.length ≤ c1) (hr2 : Kd.C Kd.bool w A2 l2.length l2) (hc2 : l2.length ≤ c2) (h : clepsydralaw07_TrimVotes.f k a0 l1 l2 a3 = some r) :
    Calls Try.prog 12 #[.int .i64 a0, .slice A1 l1.length c1, .slice A2 l2.length c2, .int .i64 a3] w fun e w' => e = .returned (.bool r) ∧ Below w.heap.size w w' := by
  have HR1 := Aside0.mk hr1
  have HC1 := Aside0.mk hc1
  clear hr1 hc1
  have HR2 := Aside0.mk hr2
  have HC2 := Aside0.mk hc2
  clear hr2 hc2
  have HB := Aside0.mk (Below.refl w.heap.size w)
  have H : ((clepsydralaw07_alive.f k).bind fun t267 => (if t267 = true then (if (l1.length : Int) > 256 then (clepsydralaw07_TrimVotes.j0 k a0 l1 l2 a3 true) else (if a0 < 0 then (clepsydralaw07_TrimVotes.j0 k a0 l1 l2 a3 true) else (clepsydralaw07_TrimVotes.j0 k a0 l1 l2 a3 ((l2.length : Int) != (l1.length : Int))))) else (some false))) = some r := h
  clear h
  replace H := Option.bind_eq_some_iff.mp H
  obtain ⟨t267, A50, H⟩ := H
  replace H : (if t267 = true then (if (l1.length : Int) > 256 then (clepsydralaw07_TrimVotes.j0 k a0 l1 l2 a3 true) else (if a0 < 0 then (clepsydralaw07_TrimVotes.j0 k a0 l1 l2 a3 true) else (clepsydralaw07_TrimVotes.j0 k a0 l1 l2 a3 ((l2.length : Int) != (l1.length : Int))))) else (some false)) = some r := H
  have A5 := Aside0.mk A50
  clear A50
  by_cases c6 : t267 = true
  · subst c6
    have H1 : (if (l1.length : Int) > 256 then (clepsydralaw07_TrimVotes.j0 k a0 l1 l2 a3 true) else (if a0 < 0 then (clepsydralaw07_TrimVotes.j0 k a0 l1 l2 a3 true) else (clepsydralaw07_TrimVotes.j0 k a0 l1 l2 a3 ((l2.length : Int) != (l1.length : Int))))) = some r := by rw [if_pos rfl] at H; exact H
    clear H
    have H := H1
    clear H1
    have HC7 := Aside0.mk H
    clear H
    go_enter Try.func12, Try.ntmps12
    go_upto_region 3 with (first | ((with_reducible refine gate_callee (f := 30) rfl ?_); refine goesL_ (some 19) rfl rfl Try.func30 (by kernel_rfl) rfl #[] rfl (by (try simp only [List.map_toArray, List.map_cons, List.map_nil]); first | done | rfl | (simp only [List.length_drop, List.length_take]; rfl)) ?_; (with_reducible refine (clepsydralaw07_alive.calls k  true _ A5.out).mono ?_); rintro e w8 ⟨rfl, hb⟩; refine ⟨_, rfl, ?_⟩; have n0_ := Aside0.mk (below_step (by repeat (first | (with_reducible first | exact HB.out | apply below_alloc | apply pw_below_drewN | apply below_drew1) | exact HB.out)) hb); clear HB; have HB := n0_; clear n0_; (try clear hb); (try clear hb2); (try clear hk); (try clear hi)))
    (try simp only [Act.put, List.setIfInBounds_toArray, List.set_cons_zero, List.set_cons_succ])
    go_cut [34] (fun v34 wc => ∃ (kq : Nat) (x34_6 : Bool), v34 = .bool x34_6 ∧ Aside0 (clepsydralaw07_TrimVotes.j0 kq a0 l1 l2 a3 x34_6 = some r) ∧ Aside0 (kq ≤ k) ∧ Aside0 (Below w.heap.size w wc))
    case first =>
      have H := HC7.out
      clear HC7
      by_cases c9 : (l1.length : Int) > 256
      · rw [if_pos c9] at H
        have c9b0 : decide (256 < (l1.length : Int)) = true := decide_eq_true c9
        have c9b1 : decide (256 < l1.length) = true := decide_eq_true (by omega)
        clear c9
        (first | rw [c9b0] | (simp only [i64_w, i32_w]; rw [c9b0]) | skip)
        have H' := Aside0.mk H
        clear H
        go_wp2
        go_meet
        case rel => exact ⟨_, (true), (by first | rfl | (simp; done) | (simp [*]; done)), H', ⟨by first | omega | exact Nat.le_refl _⟩, ⟨by repeat (first | (with_reducible first | exact HB.out | apply below_alloc | apply pw_below_drewN | apply below_drew1) | exact HB.out)⟩⟩
      · rw [if_neg c9] at H
        have c9b0 : decide (256 < (l1.length : Int)) = false := decide_eq_false c9
        have c9b1 : decide (256 < l1.length) = false := decide_eq_false (by omega)
        clear c9
        (first | rw [c9b0] | (simp only [i64_w, i32_w]; rw [c9b0]) | skip)
        by_cases c10 : a0 < 0
        · rw [if_pos c10] at H
          have c10b0 : decide (a0 < 0) = true := decide_eq_true c10
          clear c10
          have H' := Aside0.mk H
          clear H
          go_wp2
          go_meet
          case rel => exact ⟨_, (true), (by first | rfl | (simp; done) | (simp [*]; done)), H', ⟨by first | omega | exact Nat.le_refl _⟩, ⟨by repeat (first | (with_reducible first | exact HB.out | apply below_alloc | apply pw_below_drewN | apply below_drew1) | exact HB.out)⟩⟩
        · rw [if_neg c10] at H
          have c10b0 : decide (a0 < 0) = false := decide_eq_false c10
          clear c10
          have H' := Aside0.mk H
          clear H
          go_wp2
          go_meet
          case rel => exact ⟨_, (((l2.length : Int) != (l1.length : Int))), (by first | rfl | (simp; done) | (simp [*]; done)), H', ⟨by first | omega | exact Nat.le_refl _⟩, ⟨by repeat (first | (with_reducible first | exact HB.out | apply below_alloc | apply pw_below_drewN | apply below_drew1) | exact HB.out)⟩⟩
    case rest =>
      clear HC7
      try clear c1
      try clear c2
      try clear p2
      try clear c3
      try clear c6
      try clear c9
      try clear c9b0
      try clear c9b1
      try clear c10
      try clear c10b0
      obtain ⟨kq, x34_6, rfl, HA, HJ6, HB⟩ := hcut
      cases kq with
      | zero => exact absurd HA.out (by simp [clepsydralaw07_TrimVotes.j0])
      | succ kj6 =>
        have H := HA.out
        clear HA
        simp only [clepsydralaw07_TrimVotes.j0] at H
        by_cases c11 : x34_6 = true
        · subst c11
          have H1 : (some true) = some r := by rw [if_pos rfl] at H; exact H
          clear H
          have H := H1
          clear H1
          obtain rfl := Option.some.inj H
          go_wp2
          go_ret
          exact ⟨by first | rfl | (simp [errW_none, errW_some] <;> rfl) | (simp [*, errW_none, errW_some] <;> rfl), by repeat (first | (with_reducible first | exact HB.out | apply below_alloc | apply pw_below_drewN | apply below_drew1) | exact HB.out)⟩
        · replace c11 := Bool.eq_false_iff.mpr c11
          subst c11
          have H1 : (clepsydralaw07_TrimVotes.l0 kj6 a0 l1 l2 a3 0 true 0 l2 (l2.length : Int) 0) = some r := by rw [if_neg (show ¬ (false = true) by decide)] at H; exact H
          clear H
          have H := H1
          clear H1
          have H' := Aside0.mk H
          clear H
          go_wp2
          go_loopg [9, 10, 11, 37] kj6 (fun kq v9 v10 v11 v37 w' => ∃ (x9_2 : Int) (x10_2 : Bool) (x11_2 : Int) (x37_2 : Int), v9 = .int .i64 x9_2 ∧ v10 = .bool x10_2 ∧ v11 = .int .i64 x11_2 ∧ v37 = .int .i64 x37_2 ∧ Aside0 (clepsydralaw07_TrimVotes.l0 kq a0 l1 l2 a3 x9_2 x10_2 x11_2 l2 (l2.length : Int) x37_2 = some r) ∧ Aside0 (kq ≤ kj6) ∧ Aside0 (Below w.heap.size w w'))
          case atStart => exact ⟨(0), (true), (0), (0), (by first | rfl | (simp; done) | (simp [*]; done)), (by first | rfl | (simp; done) | (simp [*]; done)), (by first | rfl | (simp; done) | (simp [*]; done)), (by first | rfl | (simp; done) | (simp [*]; done)), H', ⟨Nat.le_refl _⟩, ⟨by repeat (first | (with_reducible first | exact HB.out | apply below_alloc | apply pw_below_drewN | apply below_drew1) | exact HB.out)⟩⟩
          case round =>
            clear H'
            try clear c1
            try clear c2
            try clear p2
            try clear c3
            try clear c6
            try clear c9
            try clear c9b0
            try clear c9b1
            try clear c10
            try clear c10b0
            try clear c11
            try clear p2
            obtain ⟨x9_2, x10_2, x11_2, x37_2, rfl, rfl, rfl, rfl, HA, HK2, HB⟩ := hrel
            cases gk with
            | zero => exact absurd HA.out (by simp [clepsydralaw07_TrimVotes.l0])
            | succ k2 =>
              have H := HA.out
              clear HA
              simp only [clepsydralaw07_TrimVotes.l0] at H
              by_cases c12 : x37_2 < (l2.length : Int)
              · rw [if_pos c12] at H
                have c12b0 : decide (x37_2 < (l2.length : Int)) = true := decide_eq_true c12
                clear c12
                by_cases c13 : 0 ≤ x37_2
                · rw [if_pos c13] at H
                  have c13b0 : decide (0 ≤ x37_2) = true := decide_eq_true c13
                  clear c13
                  by_cases c14 : x37_2 < (l2.length : Int)
                  · rw [if_pos c14] at H
                    have c14b0 : decide (x37_2 < (l2.length : Int)) = true := decide_eq_true c14
                    clear c14
                    obtain ⟨bq15, hbq15⟩ : ∃ b_ : Bool, b_ = (rdOf false l2 x37_2) := ⟨_, rfl⟩
                    replace H : (if bq15 = true then (if x10_2 = true then (if x37_2 < (l1.length : Int) then (clepsydralaw07_TrimVotes.l0 k2 a0 l1 l2 a3 x9_2 ((rd l1 x37_2) == a3) (wrap64 (x11_2 + 1)) l2 (l2.length : Int) (wrap64 (x37_2 + 1))) else (none)) else (clepsydralaw07_TrimVotes.l0 k2 a0 l1 l2 a3 x9_2 false (wrap64 (x11_2 + 1)) l2 (l2.length : Int) (wrap64 (x37_2 + 1)))) else (clepsydralaw07_TrimVotes.l0 k2 a0 l1 l2 a3 (wrap64 (x9_2 + 1)) x10_2 x11_2 l2 (l2.length : Int) (wrap64 (x37_2 + 1)))) = some r := by rw [← hbq15] at H; exact H
                    have Nbq15 := Aside0.mk hbq15
                    clear hbq15
                    by_cases c16 : bq15 = true
                    · subst c16
                      have H1 : (if x10_2 = true then (if x37_2 < (l1.length : Int) then (clepsydralaw07_TrimVotes.l0 k2 a0 l1 l2 a3 x9_2 ((rd l1 x37_2) == a3) (wrap64 (x11_2 + 1)) l2 (l2.length : Int) (wrap64 (x37_2 + 1))) else (none)) else (clepsydralaw07_TrimVotes.l0 k2 a0 l1 l2 a3 x9_2 false (wrap64 (x11_2 + 1)) l2 (l2.length : Int) (wrap64 (x37_2 + 1)))) = some r := by rw [if_pos rfl] at H; exact H
                      clear H
                      have H := H1
                      clear H1
                      by_cases c17 : x10_2 = true
                      · subst c17
                        have H1 : (if x37_2 < (l1.length : Int) then (clepsydralaw07_TrimVotes.l0 k2 a0 l1 l2 a3 x9_2 ((rd l1 x37_2) == a3) (wrap64 (x11_2 + 1)) l2 (l2.length : Int) (wrap64 (x37_2 + 1))) else (none)) = some r := by rw [if_pos rfl] at H; exact H
                        clear H
                        have H := H1
                        clear H1
                        by_cases c18 : x37_2 < (l1.length : Int)
                        · rw [if_pos c18] at H
                          have c18b0 : decide (x37_2 < (l1.length : Int)) = true := decide_eq_true c18
                          clear c18
                          have H' := Aside0.mk H
                          clear H
                          have p268 : 0 ≤ (x37_2 : Int) := of_decide_eq_true (by first | (with_reducible assumption) | assumption)
                          have q268 : x37_2 < (l2.length : Int) := of_decide_eq_true (by first | (with_reducible assumption) | assumption)
                          obtain ⟨ad268, e268, hx268_0⟩ := Kd.at_bool HR2.out x37_2 p268 q268
                          (try rw [← Nbq15.out] at hx268_0)
                          cases e268
                          replace hx268_0 := (HB.out.cell (World.block_lt_of_cell? w _ hx268_0)).trans hx268_0
                          replace p268 := eq_true p268
                          replace q268 := eq_true q268
                          have p269 : 0 ≤ (x37_2 : Int) := of_decide_eq_true (by first | (with_reducible assumption) | assumption)
                          have q269 : x37_2 < (l1.length : Int) := of_decide_eq_true (by first | (with_reducible assumption) | assumption)
                          obtain ⟨ad269, e269, hx269_0⟩ := Kd.at_int HR1.out x37_2 p269 q269
                          cases e269
                          replace hx269_0 := (HB.out.cell (World.block_lt_of_cell? w _ hx269_0)).trans hx269_0
                          replace p269 := eq_true p269
                          replace q269 := eq_true q269
                          go_wp2
                          go_roundg k2
                          case measure => have := HJ6.out; have := HK2.out; omega
                          case rel => exact ⟨(x9_2), (((rd l1 x37_2) == a3)), (wrap64 (x11_2 + 1)), (wrap64 (x37_2 + 1)), (by first | rfl | (simp; done) | (simp [*]; done)), (by first | rfl | (simp; done) | (simp [*]; done)), (by first | rfl | (simp; done) | (simp [*]; done)), (by first | rfl | (simp; done) | (simp [*]; done)), H', ⟨by have := HJ6.out; have := HK2.out; omega⟩, ⟨by repeat (first | (with_reducible first | exact HB.out | apply below_alloc | apply pw_below_drewN | apply below_drew1) | exact HB.out)⟩⟩
                        · rw [if_neg c18] at H
                          exact absurd H (by simp)
                      · replace c17 := Bool.eq_false_iff.mpr c17
                        subst c17
                        have H1 : (clepsydralaw07_TrimVotes.l0 k2 a0 l1 l2 a3 x9_2 false (wrap64 (x11_2 + 1)) l2 (l2.length : Int) (wrap64 (x37_2 + 1))) = some r := by rw [if_neg (show ¬ (false = true) by decide)] at H; exact H
                        clear H
                        have H := H1
                        clear H1
                        have H' := Aside0.mk H
                        clear H
                        have p268 : 0 ≤ (x37_2 : Int) := of_decide_eq_true (by first | (with_reducible assumption) | assumption)
                        have q268 : x37_2 < (l2.length : Int) := of_decide_eq_true (by first | (with_reducible assumption) | assumption)
                        obtain ⟨ad268, e268, hx268_0⟩ := Kd.at_bool HR2.out x37_2 p268 q268
                        (try rw [← Nbq15.out] at hx268_0)
                        cases e268
                        replace hx268_0 := (HB.out.cell (World.block_lt_of_cell? w _ hx268_0)).trans hx268_0
                        replace p268 := eq_true p268
                        replace q268 := eq_true q268
                        go_wp2
                        go_roundg k2
                        case measure => have := HJ6.out; have := HK2.out; omega
                        case rel => exact ⟨(x9_2), (false), (wrap64 (x11_2 + 1)), (wrap64 (x37_2 + 1)), (by first | rfl | (simp; done) | (simp [*]; done)), (by first | rfl | (simp; done) | (simp [*]; done)), (by first | rfl | (simp; done) | (simp [*]; done)), (by first | rfl | (simp; done) | (simp [*]; done)), H', ⟨by have := HJ6.out; have := HK2.out; omega⟩, ⟨by repeat (first | (with_reducible first | exact HB.out | apply below_alloc | apply pw_below_drewN | apply below_drew1) | exact HB.out)⟩⟩
                    · replace c16 := Bool.eq_false_iff.mpr c16
                      subst c16
                      have H1 : (clepsydralaw07_TrimVotes.l0 k2 a0 l1 l2 a3 (wrap64 (x9_2 + 1)) x10_2 x11_2 l2 (l2.length : Int) (wrap64 (x37_2 + 1))) = some r := by rw [if_neg (show ¬ (false = true) by decide)] at H; exact H
                      clear H
                      have H := H1
                      clear H1
                      have H' := Aside0.mk H
                      clear H
                      have p268 : 0 ≤ (x37_2 : Int) := of_decide_eq_true (by first | (with_reducible assumption) | assumption)
                      have q268 : x37_2 < (l2.length : Int) := of_decide_eq_true (by first | (with_reducible assumption) | assumption)
                      obtain ⟨ad268, e268, hx268_0⟩ := Kd.at_bool HR2.out x37_2 p268 q268
                      (try rw [← Nbq15.out] at hx268_0)
                      cases e268
                      replace hx268_0 := (HB.out.cell (World.block_lt_of_cell? w _ hx268_0)).trans hx268_0
                      replace p268 := eq_true p268
                      replace q268 := eq_true q268
                      go_wp2
                      go_roundg k2
                      case measure => have := HJ6.out; have := HK2.out; omega
                      case rel => exact ⟨(wrap64 (x9_2 + 1)), (x10_2), (x11_2), (wrap64 (x37_2 + 1)), (by first | rfl | (simp; done) | (simp [*]; done)), (by first | rfl | (simp; done) | (simp [*]; done)), (by first | rfl | (simp; done) | (simp [*]; done)), (by first | rfl | (simp; done) | (simp [*]; done)), H', ⟨by have := HJ6.out; have := HK2.out; omega⟩, ⟨by repeat (first | (with_reducible first | exact HB.out | apply below_alloc | apply pw_below_drewN | apply below_drew1) | exact HB.out)⟩⟩
                  · rw [if_neg c14] at H
                    exact absurd H (by simp)
                · rw [if_neg c13] at H
                  exact absurd H (by simp)
              · rw [if_neg c12] at H
                have c12b0 : decide (x37_2 < (l2.length : Int)) = false := decide_eq_false c12
                clear c12
                by_cases c19 : x9_2 > a0
                · rw [if_pos c19] at H
                  have c19b0 : decide (a0 < x9_2) = true := decide_eq_true c19
                  clear c19
                  obtain rfl := Option.some.inj H
                  go_wp2
                  go_ret
                  exact ⟨by first | rfl | (simp [errW_none, errW_some] <;> rfl) | (simp [*, errW_none, errW_some] <;> rfl), by repeat (first | (with_reducible first | exact HB.out | apply below_alloc | apply pw_below_drewN | apply below_drew1) | exact HB.out)⟩
                · rw [if_neg c19] at H
                  have c19b0 : decide (a0 < x9_2) = false := decide_eq_false c19
                  clear c19
                  replace H := Option.bind_eq_some_iff.mp H
                  obtain ⟨⟨t270, t271⟩, A200, H⟩ := H
                  replace H : (if x10_2 = true then (if x11_2 > a0 then (if t271 = true then (clepsydralaw07_TrimVotes.j2 k2 l1 l2 t270 t271 (t270 != a3)) else (clepsydralaw07_TrimVotes.j2 k2 l1 l2 t270 t271 true)) else (clepsydralaw07_TrimVotes.j2 k2 l1 l2 t270 t271 false)) else (clepsydralaw07_TrimVotes.j2 k2 l1 l2 t270 t271 false)) = some r := H
                  have A20 := Aside0.mk A200
                  clear A200
                  have HC21 := Aside0.mk H
                  clear H
                  go_upto_region 17 with (first | ((with_reducible refine gate_callee (f := 15) rfl ?_); refine goesL_ (some 64) rfl rfl Try.func15 (by kernel_rfl) rfl #[.int .i64 a0, .slice A1 l1.length c1] rfl (by (try simp only [List.map_toArray, List.map_cons, List.map_nil]); first | done | rfl | (simp only [List.length_drop, List.length_take]; rfl)) ?_; (with_reducible refine (trim_Agreed_int.calls a0 _ _ l1 t270 t271 _ ?side1 ?side2 A20.out).mono ?_); (case side1 => repeat (first | exact (Kd.C_below HR1.out HB.out) | (with_reducible refine Kd.C_alloc ?_ _) | (with_reducible refine Kd.C_drewN ?_ _) | (with_reducible refine Kd.C_drew ?_))); (case side2 => exact HC1.out); rintro e w22 ⟨rfl, hb⟩; refine ⟨_, rfl, ?_⟩; have n0_ := Aside0.mk (below_step (by repeat (first | (with_reducible first | exact HB.out | apply below_alloc | apply pw_below_drewN | apply below_drew1) | exact HB.out)) hb); clear HB; have HB := n0_; clear n0_; (try clear hb); (try clear hb2); (try clear hk); (try clear hi)))
                  (try simp only [Act.put, List.setIfInBounds_toArray, List.set_cons_zero, List.set_cons_succ])
                  go_cut [81] (fun v81 wc => ∃ (kq : Nat) (x81_20 : Bool), v81 = .bool x81_20 ∧ Aside0 (clepsydralaw07_TrimVotes.j2 kq l1 l2 t270 t271 x81_20 = some r) ∧ Aside0 (kq ≤ k2) ∧ Aside0 (Below w.heap.size w wc))
                  case first =>
                    have H := HC21.out
                    clear HC21
                    by_cases c23 : x10_2 = true
                    · subst c23
                      have H1 : (if x11_2 > a0 then (if t271 = true then (clepsydralaw07_TrimVotes.j2 k2 l1 l2 t270 t271 (t270 != a3)) else (clepsydralaw07_TrimVotes.j2 k2 l1 l2 t270 t271 true)) else (clepsydralaw07_TrimVotes.j2 k2 l1 l2 t270 t271 false)) = some r := by rw [if_pos rfl] at H; exact H
                      clear H
                      have H := H1
                      clear H1
                      by_cases c24 : x11_2 > a0
                      · rw [if_pos c24] at H
                        have c24b0 : decide (a0 < x11_2) = true := decide_eq_true c24
                        clear c24
                        (first | rw [c24b0] | (simp only [i64_w, i32_w]; rw [c24b0]) | skip)
                        by_cases c25 : t271 = true
                        · subst c25
                          have H1 : (clepsydralaw07_TrimVotes.j2 k2 l1 l2 t270 true (t270 != a3)) = some r := by rw [if_pos rfl] at H; exact H
                          clear H
                          have H := H1
                          clear H1
                          have H' := Aside0.mk H
                          clear H
                          go_wp2
                          go_meet
                          case rel => exact ⟨_, ((t270 != a3)), (by first | rfl | (simp; done) | (simp [*]; done)), H', ⟨by have := HJ6.out; have := HK2.out; first | omega | exact Nat.le_refl _⟩, ⟨by repeat (first | (with_reducible first | exact HB.out | apply below_alloc | apply pw_below_drewN | apply below_drew1) | exact HB.out)⟩⟩
                        · replace c25 := Bool.eq_false_iff.mpr c25
                          subst c25
                          have H1 : (clepsydralaw07_TrimVotes.j2 k2 l1 l2 t270 false true) = some r := by rw [if_neg (show ¬ (false = true) by decide)] at H; exact H
                          clear H
                          have H := H1
                          clear H1
                          have H' := Aside0.mk H
                          clear H
                          go_wp2
                          go_meet
                          case rel => exact ⟨_, (true), (by first | rfl | (simp; done) | (simp [*]; done)), H', ⟨by have := HJ6.out; have := HK2.out; first | omega | exact Nat.le_refl _⟩, ⟨by repeat (first | (with_reducible first | exact HB.out | apply below_alloc | apply pw_below_drewN | apply below_drew1) | exact HB.out)⟩⟩
                      · rw [if_neg c24] at H
                        have c24b0 : decide (a0 < x11_2) = false := decide_eq_false c24
                        clear c24
                        (first | rw [c24b0] | (simp only [i64_w, i32_w]; rw [c24b0]) | skip)
                        have H' := Aside0.mk H
                        clear H
                        go_wp2
                        go_meet
                        case rel => exact ⟨_, (false), (by first | rfl | (simp; done) | (simp [*]; done)), H', ⟨by have := HJ6.out; have := HK2.out; first | omega | exact Nat.le_refl _⟩, ⟨by repeat (first | (with_reducible first | exact HB.out | apply below_alloc | apply pw_below_drewN | apply below_drew1) | exact HB.out)⟩⟩
                    · replace c23 := Bool.eq_false_iff.mpr c23
                      subst c23
                      have H1 : (clepsydralaw07_TrimVotes.j2 k2 l1 l2 t270 t271 false) = some r := by rw [if_neg (show ¬ (false = true) by decide)] at H; exact H
                      clear H
                      have H := H1
                      clear H1
                      have H' := Aside0.mk H
                      clear H
                      go_wp2
                      go_meet
                      case rel => exact ⟨_, (false), (by first | rfl | (simp; done) | (simp [*]; done)), H', ⟨by have := HJ6.out; have := HK2.out; first | omega | exact Nat.le_refl _⟩, ⟨by repeat (first | (with_reducible first | exact HB.out | apply below_alloc | apply pw_below_drewN | apply below_drew1) | exact HB.out)⟩⟩
                  case rest =>
                    clear HC21
                    try clear c1
                    try clear q1
                    try clear c2
                    try clear p2
                    try clear q2
                    try clear hx2
                    try clear c3
                    try clear c6
                    try clear p6
                    try clear c9
                    try clear c9b0
                    try clear c9b1
                    try clear c10
                    try clear c10b0
                    try clear c11
                    try clear c12
                    try clear c12b0
                    try clear c13
                    try clear c13b0
                    try clear c14
                    try clear c14b0
                    try clear c15
                    try clear q15
                    try clear c16
                    try clear c17
                    try clear c18
                    try clear c18b0
                    try clear c19
                    try clear c19b0
                    try clear c23
                    try clear c24
                    try clear c24b0
                    try clear c25
                    try clear hx268_0
                    try clear hx269_0
                    try clear p2
                    try clear p268
                    try clear p269
                    try clear q268
                    try clear q269
                    obtain ⟨kq, x81_20, rfl, HA, HJ20, HB⟩ := hcut
                    cases kq with
                    | zero => exact absurd HA.out (by simp [clepsydralaw07_TrimVotes.j2])
                    | succ kj20 =>
                      have H := HA.out
                      clear HA
                      simp only [clepsydralaw07_TrimVotes.j2] at H
                      by_cases c26 : x81_20 = true
                      · subst c26
                        have H1 : (some false) = some r := by rw [if_pos rfl] at H; exact H
                        clear H
                        have H := H1
                        clear H1
                        obtain rfl := Option.some.inj H
                        go_wp2
                        go_ret
                        exact ⟨by first | rfl | (simp [errW_none, errW_some] <;> rfl) | (simp [*, errW_none, errW_some] <;> rfl), by repeat (first | (with_reducible first | exact HB.out | apply below_alloc | apply pw_below_drewN | apply below_drew1) | exact HB.out)⟩
                      · replace c26 := Bool.eq_false_iff.mpr c26
                        subst c26
                        have H1 : (clepsydralaw07_TrimVotes.l1 kj20 l1 t270 (!t271) l2 (l2.length : Int) 0) = some r := by rw [if_neg (show ¬ (false = true) by decide)] at H; exact H
                        clear H
                        have H := H1
                        clear H1
                        have H' := Aside0.mk H
                        clear H
                        go_wp2
                        go_loopg [16, 86] kj20 (fun kq v16 v86 w' => ∃ (x16_4 : Bool) (x86_4 : Int), v16 = .bool x16_4 ∧ v86 = .int .i64 x86_4 ∧ Aside0 (clepsydralaw07_TrimVotes.l1 kq l1 t270 x16_4 l2 (l2.length : Int) x86_4 = some r) ∧ Aside0 (kq ≤ kj20) ∧ Aside0 (Below w.heap.size w w'))
                        case atStart => exact ⟨(!t271), (0), (by first | rfl | (simp; done) | (simp [*]; done)), (by first | rfl | (simp; done) | (simp [*]; done)), H', ⟨Nat.le_refl _⟩, ⟨by repeat (first | (with_reducible first | exact HB.out | apply below_alloc | apply pw_below_drewN | apply below_drew1) | exact HB.out)⟩⟩
                        case round =>
                          clear H'
                          try clear c1
                          try clear q1
                          try clear c2
                          try clear p2
                          try clear q2
                          try clear hx2
                          try clear c3
                          try clear c6
                          try clear p6
                          try clear c9
                          try clear c9b0
                          try clear c9b1
                          try clear c10
                          try clear c10b0
                          try clear c11
                          try clear c12
                          try clear c12b0
                          try clear c13
                          try clear c13b0
                          try clear c14
                          try clear c14b0
                          try clear c15
                          try clear q15
                          try clear c16
                          try clear c17
                          try clear c18
                          try clear c18b0
                          try clear c19
                          try clear c19b0
                          try clear c23
                          try clear c24
                          try clear c24b0
                          try clear c25
                          try clear c26
                          try clear p26
                          try clear q26
                          try clear hx26
                          try clear hx268_0
                          try clear hx269_0
                          try clear p2
                          try clear p268
                          try clear p269
                          try clear p6
                          try clear q1
                          try clear q15
                          try clear q2
                          try clear q268
                          try clear q269
                          obtain ⟨x16_4, x86_4, rfl, rfl, HA, HK4, HB⟩ := hrel
                          cases gk with
                          | zero => exact absurd HA.out (by simp [clepsydralaw07_TrimVotes.l1])
                          | succ k4 =>
                            have H := HA.out
                            clear HA
                            simp only [clepsydralaw07_TrimVotes.l1] at H
                            by_cases c27 : x86_4 < (l2.length : Int)
                            · rw [if_pos c27] at H
                              have c27b0 : decide (x86_4 < (l2.length : Int)) = true := decide_eq_true c27
                              clear c27
                              by_cases c28 : 0 ≤ x86_4
                              · rw [if_pos c28] at H
                                have c28b0 : decide (0 ≤ x86_4) = true := decide_eq_true c28
                                clear c28
                                by_cases c29 : x86_4 < (l2.length : Int)
                                · rw [if_pos c29] at H
                                  have c29b0 : decide (x86_4 < (l2.length : Int)) = true := decide_eq_true c29
                                  clear c29
                                  by_cases c30 : x16_4 = true
                                  · subst c30
                                    have H1 : (clepsydralaw07_TrimVotes.l1 k4 l1 t270 true l2 (l2.length : Int) (wrap64 (x86_4 + 1))) = some r := by rw [if_pos rfl] at H; exact H
                                    clear H
                                    have H := H1
                                    clear H1
                                    have H' := Aside0.mk H
                                    clear H
                                    have p272 : 0 ≤ (x86_4 : Int) := of_decide_eq_true (by first | (with_reducible assumption) | assumption)
                                    have q272 : x86_4 < (l2.length : Int) := of_decide_eq_true (by first | (with_reducible assumption) | assumption)
                                    obtain ⟨ad272, e272, hx272_0⟩ := Kd.at_bool HR2.out x86_4 p272 q272
                                    cases e272
                                    replace hx272_0 := (HB.out.cell (World.block_lt_of_cell? w _ hx272_0)).trans hx272_0
                                    replace p272 := eq_true p272
                                    replace q272 := eq_true q272
                                    go_wp2
                                    go_roundg k4
                                    case measure => have := HJ6.out; have := HK2.out; have := HJ20.out; have := HK4.out; omega
                                    case rel => exact ⟨(true), (wrap64 (x86_4 + 1)), (by first | rfl | (simp; done) | (simp [*]; done)), (by first | rfl | (simp; done) | (simp [*]; done)), H', ⟨by have := HJ6.out; have := HK2.out; have := HJ20.out; have := HK4.out; omega⟩, ⟨by repeat (first | (with_reducible first | exact HB.out | apply below_alloc | apply pw_below_drewN | apply below_drew1) | exact HB.out)⟩⟩
                                  · replace c30 := Bool.eq_false_iff.mpr c30
                                    subst c30
                                    have H1 : (if rdOf false l2 x86_4 = true then (if x86_4 < (l1.length : Int) then (clepsydralaw07_TrimVotes.l1 k4 l1 t270 ((rd l1 x86_4) == t270) l2 (l2.length : Int) (wrap64 (x86_4 + 1))) else (none)) else (clepsydralaw07_TrimVotes.l1 k4 l1 t270 false l2 (l2.length : Int) (wrap64 (x86_4 + 1)))) = some r := by rw [if_neg (show ¬ (false = true) by decide)] at H; exact H
                                    clear H
                                    have H := H1
                                    clear H1
                                    obtain ⟨bq31, hbq31⟩ : ∃ b_ : Bool, b_ = (rdOf false l2 x86_4) := ⟨_, rfl⟩
                                    replace H : (if bq31 = true then (if x86_4 < (l1.length : Int) then (clepsydralaw07_TrimVotes.l1 k4 l1 t270 ((rd l1 x86_4) == t270) l2 (l2.length : Int) (wrap64 (x86_4 + 1))) else (none)) else (clepsydralaw07_TrimVotes.l1 k4 l1 t270 false l2 (l2.length : Int) (wrap64 (x86_4 + 1)))) = some r := by rw [← hbq31] at H; exact H
                                    have Nbq31 := Aside0.mk hbq31
                                    clear hbq31
                                    by_cases c32 : bq31 = true
                                    · subst c32
                                      have H1 : (if x86_4 < (l1.length : Int) then (clepsydralaw07_TrimVotes.l1 k4 l1 t270 ((rd l1 x86_4) == t270) l2 (l2.length : Int) (wrap64 (x86_4 + 1))) else (none)) = some r := by rw [if_pos rfl] at H; exact H
                                      clear H
                                      have H := H1
                                      clear H1
                                      by_cases c33 : x86_4 < (l1.length : Int)
                                      · rw [if_pos c33] at H
                                        have c33b0 : decide (x86_4 < (l1.length : Int)) = true := decide_eq_true c33
                                        clear c33
                                        have H' := Aside0.mk H
                                        clear H
                                        have p272 : 0 ≤ (x86_4 : Int) := of_decide_eq_true (by first | (with_reducible assumption) | assumption)
                                        have q272 : x86_4 < (l2.length : Int) := of_decide_eq_true (by first | (with_reducible assumption) | assumption)
                                        obtain ⟨ad272, e272, hx272_0⟩ := Kd.at_bool HR2.out x86_4 p272 q272
                                        (try rw [← Nbq31.out] at hx272_0)
                                        cases e272
                                        replace hx272_0 := (HB.out.cell (World.block_lt_of_cell? w _ hx272_0)).trans hx272_0
                                        replace p272 := eq_true p272
                                        replace q272 := eq_true q272
                                        have p273 : 0 ≤ (x86_4 : Int) := of_decide_eq_true (by first | (with_reducible assumption) | assumption)
                                        have q273 : x86_4 < (l1.length : Int) := of_decide_eq_true (by first | (with_reducible assumption) | assumption)
                                        obtain ⟨ad273, e273, hx273_0⟩ := Kd.at_int HR1.out x86_4 p273 q273
                                        cases e273
                                        replace hx273_0 := (HB.out.cell (World.block_lt_of_cell? w _ hx273_0)).trans hx273_0
                                        replace p273 := eq_true p273
                                        replace q273 := eq_true q273
                                        go_wp2
                                        go_roundg k4
                                        case measure => have := HJ6.out; have := HK2.out; have := HJ20.out; have := HK4.out; omega
                                        case rel => exact ⟨(((rd l1 x86_4) == t270)), (wrap64 (x86_4 + 1)), (by first | rfl | (simp; done) | (simp [*]; done)), (by first | rfl | (simp; done) | (simp [*]; done)), H', ⟨by have := HJ6.out; have := HK2.out; have := HJ20.out; have := HK4.out; omega⟩, ⟨by repeat (first | (with_reducible first | exact HB.out | apply below_alloc | apply pw_below_drewN | apply below_drew1) | exact HB.out)⟩⟩
                                      · rw [if_neg c33] at H
                                        exact absurd H (by simp)
                                    · replace c32 := Bool.eq_false_iff.mpr c32
                                      subst c32
                                      have H1 : (clepsydralaw07_TrimVotes.l1 k4 l1 t270 false l2 (l2.length : Int) (wrap64 (x86_4 + 1))) = some r := by rw [if_neg (show ¬ (false = true) by decide)] at H; exact H
                                      clear H
                                      have H := H1
                                      clear H1
                                      have H' := Aside0.mk H
                                      clear H
                                      have p272 : 0 ≤ (x86_4 : Int) := of_decide_eq_true (by first | (with_reducible assumption) | assumption)
                                      have q272 : x86_4 < (l2.length : Int) := of_decide_eq_true (by first | (with_reducible assumption) | assumption)
                                      obtain ⟨ad272, e272, hx272_0⟩ := Kd.at_bool HR2.out x86_4 p272 q272
                                      (try rw [← Nbq31.out] at hx272_0)
                                      cases e272
                                      replace hx272_0 := (HB.out.cell (World.block_lt_of_cell? w _ hx272_0)).trans hx272_0
                                      replace p272 := eq_true p272
                                      replace q272 := eq_true q272
                                      go_wp2
                                      go_roundg k4
                                      case measure => have := HJ6.out; have := HK2.out; have := HJ20.out; have := HK4.out; omega
                                      case rel => exact ⟨(false), (wrap64 (x86_4 + 1)), (by first | rfl | (simp; done) | (simp [*]; done)), (by first | rfl | (simp; done) | (simp [*]; done)), H', ⟨by have := HJ6.out; have := HK2.out; have := HJ20.out; have := HK4.out; omega⟩, ⟨by repeat (first | (with_reducible first | exact HB.out | apply below_alloc | apply pw_below_drewN | apply below_drew1) | exact HB.out)⟩⟩
                                · rw [if_neg c29] at H
                                  exact absurd H (by simp)
                              · rw [if_neg c28] at H
                                exact absurd H (by simp)
                            · rw [if_neg c27] at H
                              have c27b0 : decide (x86_4 < (l2.length : Int)) = false := decide_eq_false c27
                              clear c27
                              obtain rfl := Option.some.inj H
                              go_wp2
                              go_ret
                              exact ⟨by first | rfl | (simp [errW_none, errW_some] <;> rfl) | (simp [*, errW_none, errW_some] <;> rfl), by repeat (first | (with_reducible first | exact HB.out | apply below_alloc | apply pw_below_drewN | apply below_drew1) | exact HB.out)⟩
  · replace c6 := Bool.eq_false_iff.mpr c6
    subst c6
    have H1 : (some false) = some r := by rw [if_neg (show ¬ (false = true) by decide)] at H; exact H
    clear H
    have H := H1
    clear H1
    obtain rfl := Option.some.inj H
    go_enter Try.func12, Try.ntmps12
    go_wp2_with (first | ((with_reducible refine gate_callee (f := 30) rfl ?_); refine goesL_ (some 19) rfl rfl Try.func30 (by kernel_rfl) rfl #[] rfl (by (try simp only [List.map_toArray, List.map_cons, List.map_nil]); first | done | rfl | (simp only [List.length_drop, List.length_take]; rfl)) ?_; (with_reducible refine (clepsydralaw07_alive.calls k  false _ A5.out).mono ?_); rintro e w34 ⟨rfl, hb⟩; refine ⟨_, rfl, ?_⟩; have n0_ := Aside0.mk (below_step (by repeat (first | (with_reducible first | exact HB.out | apply below_alloc | apply pw_below_drewN | apply below_drew1) | exact HB.out)) hb); clear HB; have HB := n0_; clear n0_; (try clear hb); (try clear hb2); (try clear hk); (try clear hi)))
    go_ret
    exact ⟨by first | rfl | (simp [errW_none, errW_some] <;> rfl) | (simp [*, errW_none, errW_some] <;> rfl), by repeat (first | (with_reducible first | exact HB.out | apply below_alloc | apply pw_below_drewN | apply below_drew1) | exact HB.out)⟩

/-! ### span_Mid: function 40 -/
def span_Mid.f (k : Nat) (a0_0 : Int) (a0_1 : Int) : Option (Int) := (sat_Clip.f k a0_0).bind fun t275 => ((sat_Clip.f k a0_1).bind fun t276 => (some ((wrap64 (t275 + t276)) / 2)))
theorem span_Mid.mono : ∀ a0 a1 k, LeO (span_Mid.f k a0 a1) (span_Mid.f (k + 1) a0 a1) := by
  intro a0 a1 k
  unfold span_Mid.f
  repeat' first
      | (with_reducible exact sat_Clip.mono _ _)
      | (with_reducible exact LeO.refl _)
      | (with_reducible exact LeO.none _)
      | (with_reducible refine LeO.ite ?_ ?_)
      | (with_reducible refine LeO.bind ?_ (fun _ => ?_))
      | exact sat_Clip.mono _ _
      | exact LeO.none _
      | refine LeO.ite ?_ ?_
      | refine LeO.bind ?_ (fun _ => ?_)
set_option maxHeartbeats 8000000 in
set_option maxRecDepth 100000 in
theorem span_Mid.calls (k : Nat) (a0_0 : Int) (a0_1 : Int) (r : Int) (w : World) (h : span_Mid.f k a0_0 a0_1 = some r) :
    Calls Try.prog 40 #[.agg #[.int .i64 a0_0, .int .i64 a0_1]] w fun e w' => e = .returned (.int .i64 r) ∧ Below w.heap.size w w' := by
  have hu38 := Try.underlying38
  have HB := Aside0.mk (Below.refl w.heap.size w)
  have H : ((sat_Clip.f k a0_0).bind fun t275 => ((sat_Clip.f k a0_1).bind fun t276 => (some ((wrap64 (t275 + t276)) / 2)))) = some r := h
  clear h
  replace H := Option.bind_eq_some_iff.mp H
  obtain ⟨t275, A20, H⟩ := H
  replace H : ((sat_Clip.f k a0_1).bind fun t276 => (some ((wrap64 (t275 + t276)) / 2))) = some r := H
  have A2 := Aside0.mk A20
  clear A20
  replace H := Option.bind_eq_some_iff.mp H
  obtain ⟨t276, A30, H⟩ := H
  replace H : (some ((wrap64 (t275 + t276)) / 2)) = some r := H
  have A3 := Aside0.mk A30
  clear A30
  obtain rfl := Option.some.inj H
  go_enter Try.func40, Try.ntmps40
  go_wp2_with (first | ((with_reducible refine gate_dst (N := 1) rfl ?_); refine box_event ?hg (N := 1) ?hd (cs := #[.int .i64 a0_0, .int .i64 a0_1]) (t := 38) ?hr ?_; (case hd => rfl); (case hg => rfl); (case hr => first | (go_simp; done) | (go_simp; rfl)); intro gb274 hg w4 hbox hb; have n0_ := Aside0.mk (below_step (by repeat (first | (with_reducible first | exact HB.out | apply below_alloc | apply pw_below_drewN | apply below_drew1) | exact HB.out)) hb); have n1_ := Aside0.mk (hbox); have n2_ := Aside0.mk ((by rw [hg]; exact (below_size (by repeat (first | (with_reducible first | exact HB.out | apply below_alloc | apply pw_below_drewN | apply below_drew1) | exact HB.out))) : w.heap.size ≤ gb274)); have n3_ := Aside0.mk ((by rw [hg]; exact (below_size (by repeat (first | (with_reducible first | exact HB.out | apply below_alloc | apply pw_below_drewN | apply below_drew1) | exact HB.out))) : w.heap.size ≤ gb274)); clear HB; have HB := n0_; have BK274 := n1_; have GW274 := n2_; have GE274 := n3_; clear n0_ n1_ n2_ n3_; clear hb hbox hg; have hcz5_0 : w4.cell? ⟨gb274, 0, none⟩ = some (.int .i64 a0_0) := (blk_cell BK274.out 0).trans rfl; have hcz5_1 : w4.cell? ⟨gb274, 1, none⟩ = some (.int .i64 a0_1) := (blk_cell BK274.out 1).trans rfl; have hfz5_0 := blk_frozen BK274.out 0; have hfz5_1 := blk_frozen BK274.out 1) | (go_at_call 46; (with_reducible refine (sat_Clip.calls k a0_0 t275 _ A2.out).mono ?_); rintro e w' ⟨rfl, ⟨nd, rfl⟩⟩; (try first | exact ⟨rfl, _, World.drewN_drewN _ _ _⟩ | exact ⟨rfl, _, Eq.trans (World.drewN_drewN _ _ _) (congrArg (World.drewN _) (Nat.add_assoc _ _ _))⟩)) | (go_at_call 46; (with_reducible refine (sat_Clip.calls k a0_1 t276 _ A3.out).mono ?_); rintro e w' ⟨rfl, ⟨nd, rfl⟩⟩; (try first | exact ⟨rfl, _, World.drewN_drewN _ _ _⟩ | exact ⟨rfl, _, Eq.trans (World.drewN_drewN _ _ _) (congrArg (World.drewN _) (Nat.add_assoc _ _ _))⟩)))
  repeat (go_quiet (first | ((with_reducible refine gate_dst (N := 1) rfl ?_); refine box_event ?hg (N := 1) ?hd (cs := #[.int .i64 a0_0, .int .i64 a0_1]) (t := 38) ?hr ?_; (case hd => rfl); (case hg => rfl); (case hr => first | (go_simp; done) | (go_simp; rfl)); intro gb274 hg w4 hbox hb; have n0_ := Aside0.mk (below_step (by repeat (first | (with_reducible first | exact HB.out | apply below_alloc | apply pw_below_drewN | apply below_drew1) | exact HB.out)) hb); have n1_ := Aside0.mk (hbox); have n2_ := Aside0.mk ((by rw [hg]; exact (below_size (by repeat (first | (with_reducible first | exact HB.out | apply below_alloc | apply pw_below_drewN | apply below_drew1) | exact HB.out))) : w.heap.size ≤ gb274)); have n3_ := Aside0.mk ((by rw [hg]; exact (below_size (by repeat (first | (with_reducible first | exact HB.out | apply below_alloc | apply pw_below_drewN | apply below_drew1) | exact HB.out))) : w.heap.size ≤ gb274)); clear HB; have HB := n0_; have BK274 := n1_; have GW274 := n2_; have GE274 := n3_; clear n0_ n1_ n2_ n3_; clear hb hbox hg; have hcz5_0 : w4.cell? ⟨gb274, 0, none⟩ = some (.int .i64 a0_0) := (blk_cell BK274.out 0).trans rfl; have hcz5_1 : w4.cell? ⟨gb274, 1, none⟩ = some (.int .i64 a0_1) := (blk_cell BK274.out 1).trans rfl; have hfz5_0 := blk_frozen BK274.out 0; have hfz5_1 := blk_frozen BK274.out 1) | (go_at_call 46; (with_reducible refine (sat_Clip.calls k a0_0 t275 _ A2.out).mono ?_); rintro e w' ⟨rfl, ⟨nd, rfl⟩⟩; (try first | exact ⟨rfl, _, World.drewN_drewN _ _ _⟩ | exact ⟨rfl, _, Eq.trans (World.drewN_drewN _ _ _) (congrArg (World.drewN _) (Nat.add_assoc _ _ _))⟩)) | (go_at_call 46; (with_reducible refine (sat_Clip.calls k a0_1 t276 _ A3.out).mono ?_); rintro e w' ⟨rfl, ⟨nd, rfl⟩⟩; (try first | exact ⟨rfl, _, World.drewN_drewN _ _ _⟩ | exact ⟨rfl, _, Eq.trans (World.drewN_drewN _ _ _) (congrArg (World.drewN _) (Nat.add_assoc _ _ _))⟩))); try go_wp2_with (first | ((with_reducible refine gate_dst (N := 1) rfl ?_); refine box_event ?hg (N := 1) ?hd (cs := #[.int .i64 a0_0, .int .i64 a0_1]) (t := 38) ?hr ?_; (case hd => rfl); (case hg => rfl); (case hr => first | (go_simp; done) | (go_simp; rfl)); intro gb274 hg w4 hbox hb; have n0_ := Aside0.mk (below_step (by repeat (first | (with_reducible first | exact HB.out | apply below_alloc | apply pw_below_drewN | apply below_drew1) | exact HB.out)) hb); have n1_ := Aside0.mk (hbox); have n2_ := Aside0.mk ((by rw [hg]; exact (below_size (by repeat (first | (with_reducible first | exact HB.out | apply below_alloc | apply pw_below_drewN | apply below_drew1) | exact HB.out))) : w.heap.size ≤ gb274)); have n3_ := Aside0.mk ((by rw [hg]; exact (below_size (by repeat (first | (with_reducible first | exact HB.out | apply below_alloc | apply pw_below_drewN | apply below_drew1) | exact HB.out))) : w.heap.size ≤ gb274)); clear HB; have HB := n0_; have BK274 := n1_; have GW274 := n2_; have GE274 := n3_; clear n0_ n1_ n2_ n3_; clear hb hbox hg; have hcz5_0 : w4.cell? ⟨gb274, 0, none⟩ = some (.int .i64 a0_0) := (blk_cell BK274.out 0).trans rfl; have hcz5_1 : w4.cell? ⟨gb274, 1, none⟩ = some (.int .i64 a0_1) := (blk_cell BK274.out 1).trans rfl; have hfz5_0 := blk_frozen BK274.out 0; have hfz5_1 := blk_frozen BK274.out 1) | (go_at_call 46; (with_reducible refine (sat_Clip.calls k a0_0 t275 _ A2.out).mono ?_); rintro e w' ⟨rfl, ⟨nd, rfl⟩⟩; (try first | exact ⟨rfl, _, World.drewN_drewN _ _ _⟩ | exact ⟨rfl, _, Eq.trans (World.drewN_drewN _ _ _) (congrArg (World.drewN _) (Nat.add_assoc _ _ _))⟩)) | (go_at_call 46; (with_reducible refine (sat_Clip.calls k a0_1 t276 _ A3.out).mono ?_); rintro e w' ⟨rfl, ⟨nd, rfl⟩⟩; (try first | exact ⟨rfl, _, World.drewN_drewN _ _ _⟩ | exact ⟨rfl, _, Eq.trans (World.drewN_drewN _ _ _) (congrArg (World.drewN _) (Nat.add_assoc _ _ _))⟩))))
  go_ret
  exact ⟨by first | rfl | (simp [errW_none, errW_some] <;> rfl) | (simp [*, errW_none, errW_some] <;> rfl), by repeat (first | (with_reducible first | exact HB.out | apply below_alloc | apply pw_below_drewN | apply below_drew1 | refine below_set ?_ GE274.out) | exact HB.out)⟩

/-! ### trim_Middle: function 26 -/
def trim_Middle.j0 : Nat → Int → List Int → Bool → Option (Int × Bool)
  | 0, _, _, _ => none
  | k + 1, x0, x1, x25 => if x25 = true then (some (0, false)) else ((trim_Least.f x0 x1).bind fun bt277 => ((trim_Most.f x0 x1).bind fun bt279 => ((span_Mid.f k bt277.1 bt279.1).bind fun t281 => (some (t281, true)))))
def trim_Middle.f (k : Nat) (a0 : Int) (l1 : List Int) : Option (Int × Bool) := if a0 < 0 then (trim_Middle.j0 k a0 l1 true) else (if a0 ≥ (l1.length : Int) then (trim_Middle.j0 k a0 l1 true) else (trim_Middle.j0 k a0 l1 (decide ((wrap64 ((l1.length : Int) - a0)) ≤ a0))))
theorem trim_Middle.mono_l : ∀ k, (∀ y0 y1 y2, LeO (trim_Middle.j0 k y0 y1 y2) (trim_Middle.j0 (k + 1) y0 y1 y2))
  | 0 => fun _ _ _ r h => by simp [trim_Middle.j0] at h
  | k + 1 => by
    have ih0 := trim_Middle.mono_l k
    · intro y0 y1 y2
      unfold trim_Middle.j0
      repeat' first
      | (with_reducible exact ih0 _ _ _)
      | (with_reducible exact span_Mid.mono _ _ _)
      | (with_reducible exact LeO.refl _)
      | (with_reducible exact LeO.none _)
      | (with_reducible refine LeO.ite ?_ ?_)
      | (with_reducible refine LeO.bind ?_ (fun _ => ?_))
      | exact ih0 _ _ _
      | exact span_Mid.mono _ _ _
      | exact LeO.none _
      | refine LeO.ite ?_ ?_
      | refine LeO.bind ?_ (fun _ => ?_)
theorem trim_Middle.mono : ∀ a0 a1 k, LeO (trim_Middle.f k a0 a1) (trim_Middle.f (k + 1) a0 a1) := by
  intro a0 a1 k
  have ih0 := trim_Middle.mono_l k
  unfold trim_Middle.f
  repeat' first
      | (with_reducible exact ih0 _ _ _)
      | (with_reducible exact span_Mid.mono _ _ _)
      | (with_reducible exact LeO.refl _)
      | (with_reducible exact LeO.none _)
      | (with_reducible refine LeO.ite ?_ ?_)
      | (with_reducible refine LeO.bind ?_ (fun _ => ?_))
      | exact ih0 _ _ _
      | exact span_Mid.mono _ _ _
      | exact LeO.none _
      | refine LeO.ite ?_ ?_
      | refine LeO.bind ?_ (fun _ => ?_)
set_option maxHeartbeats 8000000 in
set_option maxRecDepth 100000 in
theorem trim_Middle.calls (k : Nat) (a0 : Int) (A1 : Option Addr) (c1 : Nat) (l1 : List Int) (r1 : Int) (r2 : Bool) (w : World) (hr1 : Kd.C (Kd.int .i64) w A1 l1.length l1) (hc1 : l1.length ≤ c1) (h : trim_Middle.f k a0 l1 = some (r1, r2)) :
    Calls Try.prog 26 #[.int .i64 a0, .slice A1 l1.length c1] w fun e w' => e = .returned (.tuple #[.int .i64 r1, .bool r2]) ∧ Below w.heap.size w w' := by
  have hu38 := Try.underlying38
  have HR1 := Aside0.mk hr1
  have HC1 := Aside0.mk hc1
  clear hr1 hc1
  have HB := Aside0.mk (Below.refl w.heap.size w)
  have H : (if a0 < 0 then (trim_Middle.j0 k a0 l1 true) else (if a0 ≥ (l1.length : Int) then (trim_Middle.j0 k a0 l1 true) else (trim_Middle.j0 k a0 l1 (decide ((wrap64 ((l1.length : Int) - a0)) ≤ a0))))) = some (r1, r2) := h
  clear h
  have HC3 := Aside0.mk H
  clear H
  go_enter Try.func26, Try.ntmps26
  go_upto_region 1 with (fail)
  go_cut [25] (fun v25 wc => ∃ (kq : Nat) (x25_2 : Bool), v25 = .bool x25_2 ∧ Aside0 (trim_Middle.j0 kq a0 l1 x25_2 = some (r1, r2)) ∧ Aside0 (kq ≤ k) ∧ Aside0 (Below w.heap.size w wc))
  case first =>
    have H := HC3.out
    clear HC3
    by_cases c4 : a0 < 0
    · rw [if_pos c4] at H
      have c4b0 : decide (a0 < 0) = true := decide_eq_true c4
      clear c4
      (first | rw [c4b0] | (simp only [i64_w, i32_w]; rw [c4b0]) | skip)
      have H' := Aside0.mk H
      clear H
      go_wp2
      go_meet
      case rel => exact ⟨_, (true), (by first | rfl | (simp; done) | (simp [*]; done)), H', ⟨by first | omega | exact Nat.le_refl _⟩, ⟨by repeat (first | (with_reducible first | exact HB.out | apply below_alloc | apply pw_below_drewN | apply below_drew1) | exact HB.out)⟩⟩
    · rw [if_neg c4] at H
      have c4b0 : decide (a0 < 0) = false := decide_eq_false c4
      clear c4
      (first | rw [c4b0] | (simp only [i64_w, i32_w]; rw [c4b0]) | skip)
      by_cases c5 : a0 ≥ (l1.length : Int)
      · rw [if_pos c5] at H
        have c5b0 : decide ((l1.length : Int) ≤ a0) = true := decide_eq_true c5
        clear c5
        have H' := Aside0.mk H
        clear H
        go_wp2
        go_meet
        case rel => exact ⟨_, (true), (by first | rfl | (simp; done) | (simp [*]; done)), H', ⟨by first | omega | exact Nat.le_refl _⟩, ⟨by repeat (first | (with_reducible first | exact HB.out | apply below_alloc | apply pw_below_drewN | apply below_drew1) | exact HB.out)⟩⟩
      · rw [if_neg c5] at H
        have c5b0 : decide ((l1.length : Int) ≤ a0) = false := decide_eq_false c5
        clear c5
        have H' := Aside0.mk H
        clear H
        go_wp2
        go_meet
        case rel => exact ⟨_, (decide ((wrap64 ((l1.length : Int) - a0)) ≤ a0)), (by first | rfl | (simp; done) | (simp [*]; done)), H', ⟨by first | omega | exact Nat.le_refl _⟩, ⟨by repeat (first | (with_reducible first | exact HB.out | apply below_alloc | apply pw_below_drewN | apply below_drew1) | exact HB.out)⟩⟩
  case rest =>
    clear HC3
    try clear c1
    try clear c2
    try clear p2
    try clear c4
    try clear c4b0
    try clear c5
    try clear c5b0
    obtain ⟨kq, x25_2, rfl, HA, HJ2, HB⟩ := hcut
    cases kq with
    | zero => exact absurd HA.out (by simp [trim_Middle.j0])
    | succ kj2 =>
      have H := HA.out
      clear HA
      simp only [trim_Middle.j0] at H
      by_cases c6 : x25_2 = true
      · subst c6
        have H1 : (some (0, false)) = some (r1, r2) := by rw [if_pos rfl] at H; exact H
        clear H
        have H := H1
        clear H1
        simp only [Option.some.injEq, Prod.mk.injEq] at H
        obtain ⟨rfl, rfl⟩ := H
        go_wp2
        go_ret2
        exact ⟨by first | rfl | (simp [errW_none, errW_some] <;> rfl) | (simp [*, errW_none, errW_some] <;> rfl), by repeat (first | (with_reducible first | exact HB.out | apply below_alloc | apply pw_below_drewN | apply below_drew1) | exact HB.out)⟩
      · replace c6 := Bool.eq_false_iff.mpr c6
        subst c6
        have H1 : ((trim_Least.f a0 l1).bind fun bt277 => ((trim_Most.f a0 l1).bind fun bt279 => ((span_Mid.f kj2 bt277.1 bt279.1).bind fun t281 => (some (t281, true))))) = some (r1, r2) := by rw [if_neg (show ¬ (false = true) by decide)] at H; exact H
        clear H
        have H := H1
        clear H1
        replace H := Option.bind_eq_some_iff.mp H
        obtain ⟨⟨t277, t278⟩, A70, H⟩ := H
        replace H : ((trim_Most.f a0 l1).bind fun bt279 => ((span_Mid.f kj2 t277 bt279.1).bind fun t281 => (some (t281, true)))) = some (r1, r2) := H
        have A7 := Aside0.mk A70
        clear A70
        replace H := Option.bind_eq_some_iff.mp H
        obtain ⟨⟨t279, t280⟩, A80, H⟩ := H
        replace H : ((span_Mid.f kj2 t277 t279).bind fun t281 => (some (t281, true))) = some (r1, r2) := H
        have A8 := Aside0.mk A80
        clear A80
        replace H := Option.bind_eq_some_iff.mp H
        obtain ⟨t281, A90, H⟩ := H
        replace H : (some (t281, true)) = some (r1, r2) := H
        have A9 := Aside0.mk A90
        clear A90
        simp only [Option.some.injEq, Prod.mk.injEq] at H
        obtain ⟨rfl, rfl⟩ := H
        go_wp2_with (first | ((with_reducible refine gate_callee (f := 24) rfl ?_); refine goesL_ (some 29) rfl rfl Try.func24 (by kernel_rfl) rfl #[.int .i64 a0, .slice A1 l1.length c1] rfl (by (try simp only [List.map_toArray, List.map_cons, List.map_nil]); first | done | rfl | (simp only [List.length_drop, List.length_take]; rfl)) ?_; (with_reducible refine (trim_Least.calls a0 _ _ l1 t277 t278 _ ?side1 ?side2 A7.out).mono ?_); (case side1 => repeat (first | exact (Kd.C_below HR1.out HB.out) | (with_reducible refine Kd.C_alloc ?_ _) | (with_reducible refine Kd.C_drewN ?_ _) | (with_reducible refine Kd.C_drew ?_))); (case side2 => exact HC1.out); rintro e w10 ⟨rfl, hb⟩; refine ⟨_, rfl, ?_⟩; have n0_ := Aside0.mk (below_step (by repeat (first | (with_reducible first | exact HB.out | apply below_alloc | apply pw_below_drewN | apply below_drew1) | exact HB.out)) hb); clear HB; have HB := n0_; clear n0_; (try clear hb); (try clear hb2); (try clear hk); (try clear hi)) | ((with_reducible refine gate_callee (f := 25) rfl ?_); refine goesL_ (some 35) rfl rfl Try.func25 (by kernel_rfl) rfl #[.int .i64 a0, .slice A1 l1.length c1] rfl (by (try simp only [List.map_toArray, List.map_cons, List.map_nil]); first | done | rfl | (simp only [List.length_drop, List.length_take]; rfl)) ?_; (with_reducible refine (trim_Most.calls a0 _ _ l1 t279 t280 _ ?side1 ?side2 A8.out).mono ?_); (case side1 => repeat (first | exact (Kd.C_below HR1.out HB.out) | (with_reducible refine Kd.C_alloc ?_ _) | (with_reducible refine Kd.C_drewN ?_ _) | (with_reducible refine Kd.C_drew ?_))); (case side2 => exact HC1.out); rintro e w11 ⟨rfl, hb⟩; refine ⟨_, rfl, ?_⟩; have n0_ := Aside0.mk (below_step (by repeat (first | (with_reducible first | exact HB.out | apply below_alloc | apply pw_below_drewN | apply below_drew1) | exact HB.out)) hb); clear HB; have HB := n0_; clear n0_; (try clear hb); (try clear hb2); (try clear hk); (try clear hi)) | ((with_reducible refine gate_callee (f := 40) rfl ?_); refine goesL_ (some 41) rfl rfl Try.func40 (by kernel_rfl) rfl #[.agg #[.int .i64 t277, .int .i64 t279]] rfl (by (try simp only [List.map_toArray, List.map_cons, List.map_nil]); first | done | rfl | (simp only [List.length_drop, List.length_take]; rfl)) ?_; (with_reducible refine (span_Mid.calls kj2 t277 t279 t281 _ A9.out).mono ?_); rintro e w12 ⟨rfl, hb⟩; refine ⟨_, rfl, ?_⟩; have n0_ := Aside0.mk (below_step (by repeat (first | (with_reducible first | exact HB.out | apply below_alloc | apply pw_below_drewN | apply below_drew1) | exact HB.out)) hb); clear HB; have HB := n0_; clear n0_; (try clear hb); (try clear hb2); (try clear hk); (try clear hi)))
        go_ret2
        exact ⟨by first | rfl | (simp [errW_none, errW_some] <;> rfl) | (simp [*, errW_none, errW_some] <;> rfl), by repeat (first | (with_reducible first | exact HB.out | apply below_alloc | apply pw_below_drewN | apply below_drew1) | exact HB.out)⟩

end Go.Proofs.Ytdnddekoankmmaa.J
