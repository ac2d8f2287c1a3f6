-- Laid by a program of this session out of the translation (over the print of the kit); Lean checks it.
import Derived.Test.YtaiggeogiolbnaaK0
namespace Go.Proofs.Ytaiggeogiolbnaa.K
open Go.RowKit Go.Proofs.YtaiggeogiolbnaaW.PrintWords Go.Proofs.YtaiggeogiolbnaaW.PrintLast Go.Proofs.YtaiggeogiolbnaaW.PrintMore
attribute [local go_sem] max2_int min2_int max_two min_two max_three min_three max_four min_four   -- for this text's walks alone
set_option linter.unusedVariables false
set_option linter.unusedSimpArgs false

/-! ### clepsydraref15_Shortest: function 22 -/
mutual
def clepsydraref15_Shortest.l0 : Nat → List Bool → List (List Bool) → List Int → Int → Int → Option (List Int)
  | 0, _, _, _, _, _ => none
  | k + 1, x0, x1, x5, x14, x15 => if x15 < x14 then (if 0 ≤ x15 then (if x15 < (x5.length : Int) then ((some (x5.set (x15 : Int).toNat (-1) : List Int)).bind fun y215 => (if x15 < (x0.length : Int) then (if rdOf false x0 x15 = true then (clepsydraref15_Shortest.l0 k x0 x1 (y215.set (x15 : Int).toNat 0) x14 (wrap64 (x15 + 1))) else (clepsydraref15_Shortest.l0 k x0 x1 y215 x14 (wrap64 (x15 + 1)))) else (none))) else (none)) else (none)) else (clepsydraref15_Shortest.l1 k x0 x1 x5 0)
def clepsydraref15_Shortest.l1 : Nat → List Bool → List (List Bool) → List Int → Int → Option (List Int)
  | 0, _, _, _, _ => none
  | k + 1, x0, x1, x5, x7 => if x7 < (x0.length : Int) then (clepsydraref15_Shortest.l2 k x0 x1 x5 x7 (x0.length : Int) 0) else (some x5)
def clepsydraref15_Shortest.l2 : Nat → List Bool → List (List Bool) → List Int → Int → Int → Int → Option (List Int)
  | 0, _, _, _, _, _, _ => none
  | k + 1, x0, x1, x5, x7, x36, x37 => if x37 < x36 then (clepsydraref15_Shortest.l3 k x0 x1 x5 x7 x37 x36 x37 (x0.length : Int) 0) else (clepsydraref15_Shortest.l1 k x0 x1 x5 (wrap64 (x7 + 1)))
def clepsydraref15_Shortest.l3 : Nat → List Bool → List (List Bool) → List Int → Int → Int → Int → Int → Int → Int → Option (List Int)
  | 0, _, _, _, _, _, _, _, _, _ => none
  | k + 1, x0, x1, x5, x7, x8, x36, x37, x41, x42 => if x42 < x41 then (if 0 ≤ x8 then (if x8 < (x5.length : Int) then (if (rd x5 x8) < 0 then (if 0 ≤ x42 then (if x42 < (x5.length : Int) then (if (rd x5 x42) = x7 then (if x8 < (x1.length : Int) then (if x42 < ((rd_L7 x1 x8).length : Int) then (if rdOf false (rd_L7 x1 x8) x42 = true then (clepsydraref15_Shortest.l3 k x0 x1 (x5.set (x8 : Int).toNat (wrap64 (x7 + 1))) x7 x8 x36 x37 x41 (wrap64 (x42 + 1))) else (clepsydraref15_Shortest.l3 k x0 x1 x5 x7 x8 x36 x37 x41 (wrap64 (x42 + 1)))) else (none)) else (none)) else (clepsydraref15_Shortest.l3 k x0 x1 x5 x7 x8 x36 x37 x41 (wrap64 (x42 + 1)))) else (none)) else (none)) else (clepsydraref15_Shortest.l3 k x0 x1 x5 x7 x8 x36 x37 x41 (wrap64 (x42 + 1)))) else (none)) else (none)) else (clepsydraref15_Shortest.l2 k x0 x1 x5 x7 x36 (wrap64 (x37 + 1)))
end
def clepsydraref15_Shortest.f (k : Nat) (l0 : List Bool) (l1 : List (List Bool)) : Option (List Int) := if 0 ≤ (l0.length : Int) then (if ((l0.length : Int) : Int).toNat ≤ 35184372088832 then (clepsydraref15_Shortest.l0 k l0 l1 (List.replicate ((l0.length : Int) : Int).toNat 0) (l0.length : Int) 0) else (none)) else (none)
theorem clepsydraref15_Shortest.mono_l : ∀ k, (∀ y0 y1 y2 y3 y4, LeO (clepsydraref15_Shortest.l0 k y0 y1 y2 y3 y4) (clepsydraref15_Shortest.l0 (k + 1) y0 y1 y2 y3 y4)) ∧ (∀ y0 y1 y2 y3, LeO (clepsydraref15_Shortest.l1 k y0 y1 y2 y3) (clepsydraref15_Shortest.l1 (k + 1) y0 y1 y2 y3)) ∧ (∀ y0 y1 y2 y3 y4 y5, LeO (clepsydraref15_Shortest.l2 k y0 y1 y2 y3 y4 y5) (clepsydraref15_Shortest.l2 (k + 1) y0 y1 y2 y3 y4 y5)) ∧ (∀ y0 y1 y2 y3 y4 y5 y6 y7 y8, LeO (clepsydraref15_Shortest.l3 k y0 y1 y2 y3 y4 y5 y6 y7 y8) (clepsydraref15_Shortest.l3 (k + 1) y0 y1 y2 y3 y4 y5 y6 y7 y8))
  | 0 => ⟨fun _ _ _ _ _ r h => by simp [clepsydraref15_Shortest.l0] at h, fun _ _ _ _ r h => by simp [clepsydraref15_Shortest.l1] at h, fun _ _ _ _ _ _ r h => by simp [clepsydraref15_Shortest.l2] at h, fun _ _ _ _ _ _ _ _ _ r h => by simp [clepsydraref15_Shortest.l3] at h⟩
  | k + 1 => by
    obtain ⟨ih0, ih1, ih2, ih3⟩ := clepsydraref15_Shortest.mono_l k
    refine ⟨?_, ?_, ?_, ?_⟩
    · intro y0 y1 y2 y3 y4
      unfold clepsydraref15_Shortest.l0
      repeat' first
      | (with_reducible exact ih0 _ _ _ _ _)
      | (with_reducible exact ih1 _ _ _ _)
      | (with_reducible exact ih2 _ _ _ _ _ _)
      | (with_reducible exact ih3 _ _ _ _ _ _ _ _ _)
      | (with_reducible exact LeO.refl _)
      | (with_reducible exact LeO.none _)
      | (with_reducible refine LeO.ite ?_ ?_)
      | (with_reducible refine LeO.bind ?_ (fun _ => ?_))
      | exact ih0 _ _ _ _ _
      | exact ih1 _ _ _ _
      | exact ih2 _ _ _ _ _ _
      | exact ih3 _ _ _ _ _ _ _ _ _
      | exact LeO.none _
      | refine LeO.ite ?_ ?_
      | refine LeO.bind ?_ (fun _ => ?_)
    · intro y0 y1 y2 y3
      unfold clepsydraref15_Shortest.l1
      repeat' first
      | (with_reducible exact ih0 _ _ _ _ _)
      | (with_reducible exact ih1 _ _ _ _)
      | (with_reducible exact ih2 _ _ _ _ _ _)
      | (with_reducible exact ih3 _ _ _ _ _ _ _ _ _)
      | (with_reducible exact LeO.refl _)
      | (with_reducible exact LeO.none _)
      | (with_reducible refine LeO.ite ?_ ?_)
      | (with_reducible refine LeO.bind ?_ (fun _ => ?_))
      | exact ih0 _ _ _ _ _
      | exact ih1 _ _ _ _
      | exact ih2 _ _ _ _ _ _
      | exact ih3 _ _ _ _ _ _ _ _ _
      | exact LeO.none _
      | refine LeO.ite ?_ ?_
      | refine LeO.bind ?_ (fun _ => ?_)
    · intro y0 y1 y2 y3 y4 y5
      unfold clepsydraref15_Shortest.l2
      repeat' first
      | (with_reducible exact ih0 _ _ _ _ _)
      | (with_reducible exact ih1 _ _ _ _)
      | (with_reducible exact ih2 _ _ _ _ _ _)
      | (with_reducible exact ih3 _ _ _ _ _ _ _ _ _)
      | (with_reducible exact LeO.refl _)
      | (with_reducible exact LeO.none _)
      | (with_reducible refine LeO.ite ?_ ?_)
      | (with_reducible refine LeO.bind ?_ (fun _ => ?_))
      | exact ih0 _ _ _ _ _
      | exact ih1 _ _ _ _
      | exact ih2 _ _ _ _ _ _
      | exact ih3 _ _ _ _ _ _ _ _ _
      | exact LeO.none _
      | refine LeO.ite ?_ ?_
      | refine LeO.bind ?_ (fun _ => ?_)
    · intro y0 y1 y2 y3 y4 y5 y6 y7 y8
      unfold clepsydraref15_Shortest.l3
      repeat' first
      | (with_reducible exact ih0 _ _ _ _ _)
      | (with_reducible exact ih1 _ _ _ _)
      | (with_reducible exact ih2 _ _ _ _ _ _)
      | (with_reducible exact ih3 _ _ _ _ _ _ _ _ _)
      | (with_reducible exact LeO.refl _)
      | (with_reducible exact LeO.none _)
      | (with_reducible refine LeO.ite ?_ ?_)
      | (with_reducible refine LeO.bind ?_ (fun _ => ?_))
      | exact ih0 _ _ _ _ _
      | exact ih1 _ _ _ _
      | exact ih2 _ _ _ _ _ _
      | exact ih3 _ _ _ _ _ _ _ _ _
      | exact LeO.none _
      | refine LeO.ite ?_ ?_
      | refine LeO.bind ?_ (fun _ => ?_)
theorem clepsydraref15_Shortest.mono : ∀ a0 a1 k, LeO (clepsydraref15_Shortest.f k a0 a1) (clepsydraref15_Shortest.f (k + 1) a0 a1) := by
  intro a0 a1 k
  obtain ⟨ih0, ih1, ih2, ih3⟩ := clepsydraref15_Shortest.mono_l k
  unfold clepsydraref15_Shortest.f
  repeat' first
      | (with_reducible exact ih0 _ _ _ _ _)
      | (with_reducible exact ih1 _ _ _ _)
      | (with_reducible exact ih2 _ _ _ _ _ _)
      | (with_reducible exact ih3 _ _ _ _ _ _ _ _ _)
      | (with_reducible exact LeO.refl _)
      | (with_reducible exact LeO.none _)
      | (with_reducible refine LeO.ite ?_ ?_)
      | (with_reducible refine LeO.bind ?_ (fun _ => ?_))
      | exact ih0 _ _ _ _ _
      | exact ih1 _ _ _ _
      | exact ih2 _ _ _ _ _ _
      | exact ih3 _ _ _ _ _ _ _ _ _
      | exact LeO.none _
      | refine LeO.ite ?_ ?_
      | refine LeO.bind ?_ (fun _ => ?_)
set_option maxHeartbeats 8000000 in
set_option maxRecDepth 100000 in
theorem clepsydraref15_Shortest.calls (k : Nat) (A0 : Option Addr) (c0 : Nat) (l0 : List Bool) (A1 : Option Addr) (c1 : Nat) (l1 : List (List Bool)) (r : List Int) (w : World) (hr0 : Kd.C Kd.bool w A0 l0.length l0) (hc0 : l0.length ≤ c0) (hr1 : Kd.C (Kd.slice 4 Kd.bool) w A1 l1.length l1) (hc1 : l1.length ≤ c1) (h : clepsydraref15_Shortest.f k l0 l1 = some r) :
    Calls Try.prog 22 #[.slice A0 l0.length c0, .slice A1 l1.length c1] w fun e w' => ∃ v0_ : Value, e = .returned (v0_) ∧ Kd.R (Kd.int .i64) 3 w' w.heap.size (fun _ => True) v0_ r ∧ Below w.heap.size w w' := by
  have HR0 := Aside0.mk hr0
  have HC0 := Aside0.mk hc0
  clear hr0 hc0
  have HR1 := Aside0.mk hr1
  have HC1 := Aside0.mk hc1
  clear hr1 hc1
  have HB := Aside0.mk (Below.refl w.heap.size w)
  have H : (if 0 ≤ (l0.length : Int) then (if ((l0.length : Int) : Int).toNat ≤ 35184372088832 then (clepsydraref15_Shortest.l0 k l0 l1 (List.replicate ((l0.length : Int) : Int).toNat 0) (l0.length : Int) 0) else (none)) else (none)) = some r := h
  clear h
  by_cases c3 : 0 ≤ (l0.length : Int)
  · rw [if_pos c3] at H
    have c3b0 := eq_true c3
    have c3b1 : decide (0 ≤ (l0.length : Int)) = true := decide_eq_true c3
    clear c3
    by_cases c4 : ((l0.length : Int) : Int).toNat ≤ 35184372088832
    · rw [if_pos c4] at H
      have c4b0 := eq_true c4
      have c4b1 : decide (((l0.length : Int) : Int).toNat ≤ 35184372088832) = true := decide_eq_true c4
      clear c4
      obtain ⟨y212, hy212⟩ : ∃ y_ : List Int, y_ = (List.replicate ((l0.length : Int) : Int).toNat 0) := ⟨_, rfl⟩
      replace H : (clepsydraref15_Shortest.l0 k l0 l1 y212 (l0.length : Int) 0) = some r := by first | (rw [hy212]; with_reducible exact H) | (have H2_ := (Option.bind_some _ _).symm.trans H; rw [hy212]; with_reducible exact H2_) | (have H2_ := (Option.bind_some _ _).symm.trans H; with_reducible exact H2_) | with_reducible exact H | (rw [hy212]; exact H) | exact H
      have Ny212 := Aside0.mk hy212
      clear hy212
      have H' := Aside0.mk H
      clear H
      go_enter Try.func22, Try.ntmps22
      go_wp2_with (first | ((with_reducible refine gate_dst (N := 12) rfl ?_); refine Kd.R_make (Kd.int .i64) _ 3 rfl (N := 12) rfl 24 _ _ rfl (l0.length : Int) rfl rfl Try.underlying24 (.int .i64 0) 8 info3 rfl (by decide) (by omega) 0 (ok := fun _ => True) (okp := fun _ => True) rfl (fun _ hk => hk) trivial (of_decide_eq_true (by first | (with_reducible assumption) | assumption)) (Nat.le_trans (Nat.mul_le_mul_right _ (of_decide_eq_true (by first | (with_reducible assumption) | assumption) : (l0.length : Int).toNat ≤ 35184372088832)) (by omega)) (Below.refl _ _) (Nat.le_refl _) ?_; intro v213 w5 ho6 hb hg_ hnew_; clear hg_ hnew_; (first | rw [← Ny212.out] at ho6 | (simp only [Int.reduceToNat] at ho6; rw [← Ny212.out] at ho6)); have n0_ := Aside0.mk (Kd.R_lower ho6 (below_size (by repeat (first | (with_reducible first | exact HB.out | apply below_alloc | apply pw_below_drewN | apply below_drew1) | exact HB.out)))); have n1_ := Aside0.mk (below_step (by repeat (first | (with_reducible first | exact HB.out | apply below_alloc | apply pw_below_drewN | apply below_drew1) | exact HB.out)) hb); clear HB; have HO214 := n0_; have HB := n1_; clear n0_ n1_; clear hb ho6))
      go_loopg [15] k (fun kq v15 w' => ∃ (x5_1 : List Int) (x15_1 : Int), v15 = .int .i64 x15_1 ∧ Aside0 (clepsydraref15_Shortest.l0 kq l0 l1 x5_1 (l0.length : Int) x15_1 = some r) ∧ Aside0 (kq ≤ k) ∧ Aside0 (Kd.R (Kd.int .i64) 3 w' w.heap.size (fun _ => True) v213 x5_1) ∧ Aside0 (Below w.heap.size w w'))
      case atStart => exact ⟨(y212), (0), (by first | rfl | (simp; done) | (simp [*]; done)), H', ⟨Nat.le_refl _⟩, ⟨by (with_reducible repeat (first | apply Kd.R_alloc | apply Kd.R_drewN | apply Kd.R_drew)); exact HO214.out⟩, ⟨by repeat (first | (with_reducible first | exact HB.out | apply below_alloc | apply pw_below_drewN | apply below_drew1) | exact HB.out)⟩⟩
      case round =>
        clear H'
        try clear c1
        try clear c2
        try clear p2
        try clear c3
        try clear c3b0
        try clear c3b1
        try clear c4
        try clear c4b0
        try clear c4b1
        obtain ⟨x5_1, x15_1, rfl, HA, HK1, HO_5, HB⟩ := hrel
        cases gk with
        | zero => exact absurd HA.out (by simp [clepsydraref15_Shortest.l0])
        | succ k1 =>
          have H := HA.out
          clear HA
          simp only [clepsydraref15_Shortest.l0] at H
          by_cases c7 : x15_1 < (l0.length : Int)
          · rw [if_pos c7] at H
            have c7b0 : decide (x15_1 < (l0.length : Int)) = true := decide_eq_true c7
            clear c7
            by_cases c8 : 0 ≤ x15_1
            · rw [if_pos c8] at H
              have c8b0 : decide (0 ≤ x15_1) = true := decide_eq_true c8
              clear c8
              by_cases c9 : x15_1 < (x5_1.length : Int)
              · rw [if_pos c9] at H
                have c9b0 : decide (x15_1 < (x5_1.length : Int)) = true := decide_eq_true c9
                clear c9
                obtain ⟨y215, hy215⟩ : ∃ y_ : List Int, y_ = (x5_1.set (x15_1 : Int).toNat (-1)) := ⟨_, rfl⟩
                replace H : (if x15_1 < (l0.length : Int) then (if rdOf false l0 x15_1 = true then (clepsydraref15_Shortest.l0 k1 l0 l1 (y215.set (x15_1 : Int).toNat 0) (l0.length : Int) (wrap64 (x15_1 + 1))) else (clepsydraref15_Shortest.l0 k1 l0 l1 y215 (l0.length : Int) (wrap64 (x15_1 + 1)))) else (none)) = some r := by first | (rw [hy215]; with_reducible exact H) | (have H2_ := (Option.bind_some _ _).symm.trans H; rw [hy215]; with_reducible exact H2_) | (have H2_ := (Option.bind_some _ _).symm.trans H; with_reducible exact H2_) | with_reducible exact H | (rw [hy215]; exact H) | exact H
                have Ny215 := Aside0.mk hy215
                clear hy215
                by_cases c11 : x15_1 < (l0.length : Int)
                · rw [if_pos c11] at H
                  have c11b0 : decide (x15_1 < (l0.length : Int)) = true := decide_eq_true c11
                  clear c11
                  obtain ⟨bq12, hbq12⟩ : ∃ b_ : Bool, b_ = (rdOf false l0 x15_1) := ⟨_, rfl⟩
                  replace H : (if bq12 = true then (clepsydraref15_Shortest.l0 k1 l0 l1 (y215.set (x15_1 : Int).toNat 0) (l0.length : Int) (wrap64 (x15_1 + 1))) else (clepsydraref15_Shortest.l0 k1 l0 l1 y215 (l0.length : Int) (wrap64 (x15_1 + 1)))) = some r := by rw [← hbq12] at H; exact H
                  have Nbq12 := Aside0.mk hbq12
                  clear hbq12
                  by_cases c13 : bq12 = true
                  · subst c13
                    have H1 : (clepsydraref15_Shortest.l0 k1 l0 l1 (y215.set (x15_1 : Int).toNat 0) (l0.length : Int) (wrap64 (x15_1 + 1))) = some r := by rw [if_pos rfl] at H; exact H
                    clear H
                    have H := H1
                    clear H1
                    obtain ⟨y217, hy217⟩ : ∃ y_ : List Int, y_ = (y215.set (x15_1 : Int).toNat 0) := ⟨_, rfl⟩
                    replace H : (clepsydraref15_Shortest.l0 k1 l0 l1 y217 (l0.length : Int) (wrap64 (x15_1 + 1))) = some r := by first | (rw [hy217]; with_reducible exact H) | (have H2_ := (Option.bind_some _ _).symm.trans H; rw [hy217]; with_reducible exact H2_) | (have H2_ := (Option.bind_some _ _).symm.trans H; with_reducible exact H2_) | with_reducible exact H | (rw [hy217]; exact H) | exact H
                    have Ny217 := Aside0.mk hy217
                    clear hy217
                    have H' := Aside0.mk H
                    clear H
                    have p10 : 0 ≤ (x15_1 : Int) := of_decide_eq_true (by first | (with_reducible assumption) | assumption)
                    have q10 : (x15_1 : Int) < ((x5_1.length : Int) : Int) := of_decide_eq_true (by first | (with_reducible assumption) | assumption)
                    obtain ⟨go10, co10, eo10, gb10, gl10, cl10, HG10⟩ := Kd.R_form HO_5.out (by omega)
                    (first | cases eo10 | (injection eo10 with ea_ en_ ec_; (first | subst ea_ | (injection ea_ with ea_; subst ea_)); subst ec_; clear en_))
                    have GB10 := Aside0.mk gb10
                    have GG10 := Aside0.mk HG10
                    clear gb10 gl10 HG10
                    obtain ⟨hx10_0, hf10_0⟩ := Kd.R_celln 0 HO_5.out (x15_1 : Int) p10 q10
                    replace p10 := eq_true p10
                    replace q10 := eq_true q10
                    have HP15 := Kd.R_putg HO_5.out (x15_1 : Int) (-1)
                    go_wp2_with (first | ((with_reducible refine gate_store (t := 3) (p := 20) rfl ?_); refine store_event (t := 3) (p := 20) (v := ?vo_w16) (w1 := (wr.setCell ⟨go10, (x15_1 : Int).toNat, none⟩ (.int .i64 (-1)))) ?hg ?ho ?hn ?hr ?_; (case ho => rfl); (case hg => rfl); (case hn => rfl); (case hr => first | (go_simp; done) | (go_simp; rfl)); intro w16 hw; have hg : wr.grownBy w16 (some go10) := (by rw [hw]; exact HP15.2); have hp_ : Kd.R (Kd.int .i64) 3 w16 w.heap.size (fun _ => True) (.slice (some ⟨go10, 0, none⟩) x5_1.length co10) y215 := (by rw [hw, Ny215.out]; exact HP15.1); clear HP15; have n0_ := Aside0.mk (hp_); have n1_ := Aside0.mk ((by rw [hw]; exact below_set (HB.out) GB10.out : Below w.heap.size w w16)); clear HO_5; clear HB; have HO_5 := n0_; have HB := n1_; clear n0_ n1_; clear hg hw hp_; have p216 : 0 ≤ (x15_1 : Int) := of_decide_eq_true (by first | (with_reducible assumption) | assumption); have q216 : x15_1 < (l0.length : Int) := of_decide_eq_true (by first | (with_reducible assumption) | assumption); obtain ⟨ad216, e216, hx216_0⟩ := Kd.at_bool HR0.out x15_1 p216 q216; (try rw [← Nbq12.out] at hx216_0); cases e216; replace hx216_0 := (HB.out.cell (World.block_lt_of_cell? w _ hx216_0)).trans hx216_0; replace p216 := eq_true p216; replace q216 := eq_true q216; have p14 : 0 ≤ (x15_1 : Int) := of_decide_eq_true (by first | (with_reducible assumption) | assumption); have q14 : (x15_1 : Int) < ((x5_1.length : Int) : Int) := of_decide_eq_true (by first | (with_reducible assumption) | assumption); obtain ⟨hx14_0, hf14_0⟩ := Kd.R_celln 0 HO_5.out (x15_1 : Int) p14 q14; replace p14 := eq_true p14; replace q14 := eq_true q14; obtain ⟨hy17_, hz17_⟩ := Kd.R_celln 0 HO_5.out (x15_1 : Int) (of_decide_eq_true (by first | (with_reducible assumption) | assumption)) (of_decide_eq_true (by first | (with_reducible assumption) | assumption)); have HP17 := Kd.R_putg HO_5.out (x15_1 : Int) 0) | ((with_reducible refine gate_store (t := 3) (p := 27) rfl ?_); refine store_event (t := 3) (p := 27) (v := ?vo_w18) (w1 := (w16.setCell ⟨go10, (x15_1 : Int).toNat, none⟩ (.int .i64 0))) ?hg ?ho ?hn ?hr ?_; (case ho => rfl); (case hg => rfl); (case hn => rfl); (case hr => first | (go_simp; done) | (go_simp; rfl)); intro w18 hw; have hg : w16.grownBy w18 (some go10) := (by rw [hw]; exact HP17.2); have hp_ : Kd.R (Kd.int .i64) 3 w18 w.heap.size (fun _ => True) (.slice (some ⟨go10, 0, none⟩) x5_1.length co10) y217 := (by rw [hw, Ny217.out]; exact HP17.1); clear HP17; have n0_ := Aside0.mk (hp_); have n1_ := Aside0.mk ((by rw [hw]; exact below_set (HB.out) GB10.out : Below w.heap.size w w18)); clear HO_5; clear HB; have HO_5 := n0_; have HB := n1_; clear n0_ n1_; clear hg hw hp_))
                    go_roundg k1
                    case measure => have := HK1.out; omega
                    case rel => exact ⟨(y217), (wrap64 (x15_1 + 1)), (by first | rfl | (simp; done) | (simp [*]; done)), H', ⟨by have := HK1.out; omega⟩, ⟨by (with_reducible repeat (first | apply Kd.R_alloc | apply Kd.R_drewN | apply Kd.R_drew)); exact HO_5.out⟩, ⟨by repeat (first | (with_reducible first | exact HB.out | apply below_alloc | apply pw_below_drewN | apply below_drew1) | exact HB.out)⟩⟩
                  · replace c13 := Bool.eq_false_iff.mpr c13
                    subst c13
                    have H1 : (clepsydraref15_Shortest.l0 k1 l0 l1 y215 (l0.length : Int) (wrap64 (x15_1 + 1))) = some r := by rw [if_neg (show ¬ (false = true) by decide)] at H; exact H
                    clear H
                    have H := H1
                    clear H1
                    have H' := Aside0.mk H
                    clear H
                    have p10 : 0 ≤ (x15_1 : Int) := of_decide_eq_true (by first | (with_reducible assumption) | assumption)
                    have q10 : (x15_1 : Int) < ((x5_1.length : Int) : Int) := of_decide_eq_true (by first | (with_reducible assumption) | assumption)
                    obtain ⟨go10, co10, eo10, gb10, gl10, cl10, HG10⟩ := Kd.R_form HO_5.out (by omega)
                    (first | cases eo10 | (injection eo10 with ea_ en_ ec_; (first | subst ea_ | (injection ea_ with ea_; subst ea_)); subst ec_; clear en_))
                    have GB10 := Aside0.mk gb10
                    have GG10 := Aside0.mk HG10
                    clear gb10 gl10 HG10
                    obtain ⟨hx10_0, hf10_0⟩ := Kd.R_celln 0 HO_5.out (x15_1 : Int) p10 q10
                    replace p10 := eq_true p10
                    replace q10 := eq_true q10
                    have HP19 := Kd.R_putg HO_5.out (x15_1 : Int) (-1)
                    go_wp2_with (first | ((with_reducible refine gate_store (t := 3) (p := 20) rfl ?_); refine store_event (t := 3) (p := 20) (v := ?vo_w20) (w1 := (wr.setCell ⟨go10, (x15_1 : Int).toNat, none⟩ (.int .i64 (-1)))) ?hg ?ho ?hn ?hr ?_; (case ho => rfl); (case hg => rfl); (case hn => rfl); (case hr => first | (go_simp; done) | (go_simp; rfl)); intro w20 hw; have hg : wr.grownBy w20 (some go10) := (by rw [hw]; exact HP19.2); have hp_ : Kd.R (Kd.int .i64) 3 w20 w.heap.size (fun _ => True) (.slice (some ⟨go10, 0, none⟩) x5_1.length co10) y215 := (by rw [hw, Ny215.out]; exact HP19.1); clear HP19; have n0_ := Aside0.mk (hp_); have n1_ := Aside0.mk ((by rw [hw]; exact below_set (HB.out) GB10.out : Below w.heap.size w w20)); clear HO_5; clear HB; have HO_5 := n0_; have HB := n1_; clear n0_ n1_; clear hg hw hp_; have p216 : 0 ≤ (x15_1 : Int) := of_decide_eq_true (by first | (with_reducible assumption) | assumption); have q216 : x15_1 < (l0.length : Int) := of_decide_eq_true (by first | (with_reducible assumption) | assumption); obtain ⟨ad216, e216, hx216_0⟩ := Kd.at_bool HR0.out x15_1 p216 q216; (try rw [← Nbq12.out] at hx216_0); cases e216; replace hx216_0 := (HB.out.cell (World.block_lt_of_cell? w _ hx216_0)).trans hx216_0; replace p216 := eq_true p216; replace q216 := eq_true q216))
                    go_roundg k1
                    case measure => have := HK1.out; omega
                    case rel => exact ⟨(y215), (wrap64 (x15_1 + 1)), (by first | rfl | (simp; done) | (simp [*]; done)), H', ⟨by have := HK1.out; omega⟩, ⟨by (with_reducible repeat (first | apply Kd.R_alloc | apply Kd.R_drewN | apply Kd.R_drew)); exact HO_5.out⟩, ⟨by repeat (first | (with_reducible first | exact HB.out | apply below_alloc | apply pw_below_drewN | apply below_drew1) | exact HB.out)⟩⟩
                · rw [if_neg c11] at H
                  exact absurd H (by simp)
              · rw [if_neg c9] at H
                exact absurd H (by simp)
            · rw [if_neg c8] at H
              exact absurd H (by simp)
          · rw [if_neg c7] at H
            have c7b0 : decide (x15_1 < (l0.length : Int)) = false := decide_eq_false c7
            clear c7
            have H' := Aside0.mk H
            clear H
            go_wp2
            go_loopg [7] k1 (fun kq v7 w' => ∃ (x5_2 : List Int) (x7_2 : Int), v7 = .int .i64 x7_2 ∧ Aside0 (clepsydraref15_Shortest.l1 kq l0 l1 x5_2 x7_2 = some r) ∧ Aside0 (kq ≤ k1) ∧ Aside0 (Kd.R (Kd.int .i64) 3 w' w.heap.size (fun _ => True) v213 x5_2) ∧ Aside0 (Below w.heap.size w w'))
            case atStart => exact ⟨(x5_1), (0), (by first | rfl | (simp; done) | (simp [*]; done)), H', ⟨Nat.le_refl _⟩, ⟨by (with_reducible repeat (first | apply Kd.R_alloc | apply Kd.R_drewN | apply Kd.R_drew)); exact HO_5.out⟩, ⟨by repeat (first | (with_reducible first | exact HB.out | apply below_alloc | apply pw_below_drewN | apply below_drew1) | exact HB.out)⟩⟩
            case round =>
              clear H'
              try clear c1
              try clear p1
              try clear q1
              try clear hx1
              try clear c2
              try clear p2
              try clear q2
              try clear hx2
              try clear c3
              try clear c3b0
              try clear c3b1
              try clear c4
              try clear c4b0
              try clear c4b1
              try clear p6
              try clear c7
              try clear c7b0
              try clear c8
              try clear c8b0
              try clear c9
              try clear c9b0
              try clear p10
              try clear q10
              try clear hx10
              try clear hf10
              try clear c11
              try clear c11b0
              try clear q12
              try clear c13
              try clear p14
              try clear q14
              try clear hx14
              try clear hf14
              try clear hx10_0
              try clear hx14_0
              try clear hx216_0
              try clear p10
              try clear p14
              try clear p2
              try clear p216
              try clear q10
              try clear q14
              try clear q216
              obtain ⟨x5_2, x7_2, rfl, HA, HK2, HO_5, HB⟩ := hrel
              cases gk with
              | zero => exact absurd HA.out (by simp [clepsydraref15_Shortest.l1])
              | succ k2 =>
                have H := HA.out
                clear HA
                simp only [clepsydraref15_Shortest.l1] at H
                by_cases c21 : x7_2 < (l0.length : Int)
                · rw [if_pos c21] at H
                  have c21b0 : decide (x7_2 < (l0.length : Int)) = true := decide_eq_true c21
                  clear c21
                  have H' := Aside0.mk H
                  clear H
                  go_wp2
                  go_loopg [37] k2 (fun kq v37 w' => ∃ (x5_3 : List Int) (x37_3 : Int), v37 = .int .i64 x37_3 ∧ Aside0 (clepsydraref15_Shortest.l2 kq l0 l1 x5_3 x7_2 (l0.length : Int) x37_3 = some r) ∧ Aside0 (kq ≤ k2) ∧ Aside0 (Kd.R (Kd.int .i64) 3 w' w.heap.size (fun _ => True) v213 x5_3) ∧ Aside0 (Below w.heap.size w w'))
                  case atStart => exact ⟨(x5_2), (0), (by first | rfl | (simp; done) | (simp [*]; done)), H', ⟨Nat.le_refl _⟩, ⟨by (with_reducible repeat (first | apply Kd.R_alloc | apply Kd.R_drewN | apply Kd.R_drew)); exact HO_5.out⟩, ⟨by repeat (first | (with_reducible first | exact HB.out | apply below_alloc | apply pw_below_drewN | apply below_drew1) | exact HB.out)⟩⟩
                  case round =>
                    clear H'
                    try clear c1
                    try clear p1
                    try clear q1
                    try clear hx1
                    try clear c2
                    try clear p2
                    try clear q2
                    try clear hx2
                    try clear c3
                    try clear c3b0
                    try clear c3b1
                    try clear c4
                    try clear c4b0
                    try clear c4b1
                    try clear p6
                    try clear c7
                    try clear c7b0
                    try clear c8
                    try clear c8b0
                    try clear c9
                    try clear c9b0
                    try clear p10
                    try clear q10
                    try clear hx10
                    try clear hf10
                    try clear c11
                    try clear c11b0
                    try clear q12
                    try clear c13
                    try clear p14
                    try clear q14
                    try clear hx14
                    try clear hf14
                    try clear c21
                    try clear c21b0
                    try clear p21
                    try clear q21
                    try clear hx21
                    try clear hx10_0
                    try clear hx14_0
                    try clear hx216_0
                    try clear p1
                    try clear p10
                    try clear p14
                    try clear p2
                    try clear p216
                    try clear p6
                    try clear q1
                    try clear q10
                    try clear q12
                    try clear q14
                    try clear q2
                    try clear q216
                    obtain ⟨x5_3, x37_3, rfl, HA, HK3, HO_5, HB⟩ := hrel
                    cases gk with
                    | zero => exact absurd HA.out (by simp [clepsydraref15_Shortest.l2])
                    | succ k3 =>
                      have H := HA.out
                      clear HA
                      simp only [clepsydraref15_Shortest.l2] at H
                      by_cases c22 : x37_3 < (l0.length : Int)
                      · rw [if_pos c22] at H
                        have c22b0 : decide (x37_3 < (l0.length : Int)) = true := decide_eq_true c22
                        clear c22
                        have H' := Aside0.mk H
                        clear H
                        go_wp2
                        go_loopg [42] k3 (fun kq v42 w' => ∃ (x5_4 : List Int) (x42_4 : Int), v42 = .int .i64 x42_4 ∧ Aside0 (clepsydraref15_Shortest.l3 kq l0 l1 x5_4 x7_2 x37_3 (l0.length : Int) x37_3 (l0.length : Int) x42_4 = some r) ∧ Aside0 (kq ≤ k3) ∧ Aside0 (Kd.R (Kd.int .i64) 3 w' w.heap.size (fun _ => True) v213 x5_4) ∧ Aside0 (Below w.heap.size w w'))
                        case atStart => exact ⟨(x5_3), (0), (by first | rfl | (simp; done) | (simp [*]; done)), H', ⟨Nat.le_refl _⟩, ⟨by (with_reducible repeat (first | apply Kd.R_alloc | apply Kd.R_drewN | apply Kd.R_drew)); exact HO_5.out⟩, ⟨by repeat (first | (with_reducible first | exact HB.out | apply below_alloc | apply pw_below_drewN | apply below_drew1) | exact HB.out)⟩⟩
                        case round =>
                          clear H'
                          try clear c1
                          try clear p1
                          try clear q1
                          try clear hx1
                          try clear c2
                          try clear p2
                          try clear q2
                          try clear hx2
                          try clear c3
                          try clear c3b0
                          try clear c3b1
                          try clear c4
                          try clear c4b0
                          try clear c4b1
                          try clear p6
                          try clear c7
                          try clear c7b0
                          try clear c8
                          try clear c8b0
                          try clear c9
                          try clear c9b0
                          try clear p10
                          try clear q10
                          try clear hx10
                          try clear hf10
                          try clear c11
                          try clear c11b0
                          try clear q12
                          try clear c13
                          try clear p14
                          try clear q14
                          try clear hx14
                          try clear hf14
                          try clear c21
                          try clear c21b0
                          try clear p21
                          try clear q21
                          try clear hx21
                          try clear c22
                          try clear c22b0
                          try clear hx10_0
                          try clear hx14_0
                          try clear hx216_0
                          try clear p1
                          try clear p10
                          try clear p14
                          try clear p2
                          try clear p21
                          try clear p216
                          try clear p6
                          try clear q1
                          try clear q10
                          try clear q12
                          try clear q14
                          try clear q2
                          try clear q21
                          try clear q216
                          obtain ⟨x5_4, x42_4, rfl, HA, HK4, HO_5, HB⟩ := hrel
                          cases gk with
                          | zero => exact absurd HA.out (by simp [clepsydraref15_Shortest.l3])
                          | succ k4 =>
                            have H := HA.out
                            clear HA
                            simp only [clepsydraref15_Shortest.l3] at H
                            by_cases c23 : x42_4 < (l0.length : Int)
                            · rw [if_pos c23] at H
                              have c23b0 : decide (x42_4 < (l0.length : Int)) = true := decide_eq_true c23
                              clear c23
                              by_cases c24 : 0 ≤ x37_3
                              · rw [if_pos c24] at H
                                have c24b0 : decide (0 ≤ x37_3) = true := decide_eq_true c24
                                clear c24
                                by_cases c25 : x37_3 < (x5_4.length : Int)
                                · rw [if_pos c25] at H
                                  have c25b0 : decide (x37_3 < (x5_4.length : Int)) = true := decide_eq_true c25
                                  clear c25
                                  by_cases c26 : (rd x5_4 x37_3) < 0
                                  · rw [if_pos c26] at H
                                    have c26b0 : decide ((rd x5_4 x37_3) < 0) = true := decide_eq_true c26
                                    clear c26
                                    by_cases c27 : 0 ≤ x42_4
                                    · rw [if_pos c27] at H
                                      have c27b0 : decide (0 ≤ x42_4) = true := decide_eq_true c27
                                      clear c27
                                      by_cases c28 : x42_4 < (x5_4.length : Int)
                                      · rw [if_pos c28] at H
                                        have c28b0 : decide (x42_4 < (x5_4.length : Int)) = true := decide_eq_true c28
                                        clear c28
                                        by_cases c29 : (rd x5_4 x42_4) = x7_2
                                        · rw [if_pos c29] at H
                                          have c29b0 : ((rd x5_4 x42_4) == x7_2) = true := beq_iff_eq.mpr c29
                                          have c29b1 : ((rd x5_4 x42_4) != x7_2) = false := bne_eq_false_iff_eq.mpr c29
                                          clear c29
                                          by_cases c30 : x37_3 < (l1.length : Int)
                                          · rw [if_pos c30] at H
                                            have c30b0 : decide (x37_3 < (l1.length : Int)) = true := decide_eq_true c30
                                            clear c30
                                            by_cases c31 : x42_4 < ((rd_L7 l1 x37_3).length : Int)
                                            · rw [if_pos c31] at H
                                              have c31b0 : decide (x42_4 < ((rd_L7 l1 x37_3).length : Int)) = true := decide_eq_true c31
                                              clear c31
                                              obtain ⟨bq32, hbq32⟩ : ∃ b_ : Bool, b_ = (rdOf false (rd_L7 l1 x37_3) x42_4) := ⟨_, rfl⟩
                                              replace H : (if bq32 = true then (clepsydraref15_Shortest.l3 k4 l0 l1 (x5_4.set (x37_3 : Int).toNat (wrap64 (x7_2 + 1))) x7_2 x37_3 (l0.length : Int) x37_3 (l0.length : Int) (wrap64 (x42_4 + 1))) else (clepsydraref15_Shortest.l3 k4 l0 l1 x5_4 x7_2 x37_3 (l0.length : Int) x37_3 (l0.length : Int) (wrap64 (x42_4 + 1)))) = some r := by rw [← hbq32] at H; exact H
                                              have Nbq32 := Aside0.mk hbq32
                                              clear hbq32
                                              by_cases c33 : bq32 = true
                                              · subst c33
                                                have H1 : (clepsydraref15_Shortest.l3 k4 l0 l1 (x5_4.set (x37_3 : Int).toNat (wrap64 (x7_2 + 1))) x7_2 x37_3 (l0.length : Int) x37_3 (l0.length : Int) (wrap64 (x42_4 + 1))) = some r := by rw [if_pos rfl] at H; exact H
                                                clear H
                                                have H := H1
                                                clear H1
                                                obtain ⟨y222, hy222⟩ : ∃ y_ : List Int, y_ = (x5_4.set (x37_3 : Int).toNat (wrap64 (x7_2 + 1))) := ⟨_, rfl⟩
                                                replace H : (clepsydraref15_Shortest.l3 k4 l0 l1 y222 x7_2 x37_3 (l0.length : Int) x37_3 (l0.length : Int) (wrap64 (x42_4 + 1))) = some r := by first | (rw [hy222]; with_reducible exact H) | (have H2_ := (Option.bind_some _ _).symm.trans H; rw [hy222]; with_reducible exact H2_) | (have H2_ := (Option.bind_some _ _).symm.trans H; with_reducible exact H2_) | with_reducible exact H | (rw [hy222]; exact H) | exact H
                                                have Ny222 := Aside0.mk hy222
                                                clear hy222
                                                have H' := Aside0.mk H
                                                clear H
                                                obtain ⟨Ao35, co35, eo35⟩ := Kd.R_slice HO_5.out
                                                subst eo35
                                                have p218 : 0 ≤ (x37_3 : Int) := of_decide_eq_true (by first | (with_reducible assumption) | assumption)
                                                have q218 : x37_3 < (x5_4.length : Int) := of_decide_eq_true (by first | (with_reducible assumption) | assumption)
                                                obtain ⟨ad218, e218, hx218_0⟩ := Kd.at_int (Kd.R_reads' HO_5.out).2.2 x37_3 p218 q218
                                                cases e218
                                                replace p218 := eq_true p218
                                                replace q218 := eq_true q218
                                                have p219 : 0 ≤ (x42_4 : Int) := of_decide_eq_true (by first | (with_reducible assumption) | assumption)
                                                have q219 : x42_4 < (x5_4.length : Int) := of_decide_eq_true (by first | (with_reducible assumption) | assumption)
                                                obtain ⟨ad219, e219, hx219_0⟩ := Kd.at_int (Kd.R_reads' HO_5.out).2.2 x42_4 p219 q219
                                                obtain rfl : ad218 = ad219 := (by injection e219)
                                                replace p219 := eq_true p219
                                                replace q219 := eq_true q219
                                                have p220 : 0 ≤ (x37_3 : Int) := of_decide_eq_true (by first | (with_reducible assumption) | assumption)
                                                have q220 : x37_3 < (l1.length : Int) := of_decide_eq_true (by first | (with_reducible assumption) | assumption)
                                                obtain ⟨ad220, A220_0, c220_0, e220, hx220_0, hl220_0, hi220_0⟩ := at_L7 HR1.out x37_3 p220 q220
                                                cases e220
                                                replace hx220_0 := (HB.out.cell (World.block_lt_of_cell? w _ hx220_0)).trans hx220_0
                                                have HR220_0 := Aside0.mk hi220_0
                                                have HC220_0 := Aside0.mk hl220_0
                                                clear hi220_0 hl220_0
                                                replace p220 := eq_true p220
                                                replace q220 := eq_true q220
                                                have p221 : 0 ≤ (x42_4 : Int) := of_decide_eq_true (by first | (with_reducible assumption) | assumption)
                                                have q221 : x42_4 < ((rd_L7 l1 x37_3).length : Int) := of_decide_eq_true (by first | (with_reducible assumption) | assumption)
                                                obtain ⟨ad221, e221, hx221_0⟩ := Kd.at_bool HR220_0.out x42_4 p221 q221
                                                (try rw [← Nbq32.out] at hx221_0)
                                                cases e221
                                                replace hx221_0 := (HB.out.cell (World.block_lt_of_cell? w _ hx221_0)).trans hx221_0
                                                replace p221 := eq_true p221
                                                replace q221 := eq_true q221
                                                have p34 : 0 ≤ (x37_3 : Int) := of_decide_eq_true (by first | (with_reducible assumption) | assumption)
                                                have q34 : (x37_3 : Int) < ((x5_4.length : Int) : Int) := of_decide_eq_true (by first | (with_reducible assumption) | assumption)
                                                obtain ⟨go34, co34, eo34, gb34, gl34, cl34, HG34⟩ := Kd.R_form HO_5.out (by omega)
                                                (first | cases eo34 | (injection eo34 with ea_ en_ ec_; (first | subst ea_ | (injection ea_ with ea_; subst ea_)); subst ec_; clear en_))
                                                have GB34 := Aside0.mk gb34
                                                have GG34 := Aside0.mk HG34
                                                clear gb34 gl34 HG34
                                                (first | simp only [add_plain] at hx218_0 | skip)
                                                (first | simp only [add_plain] at hx219_0 | skip)
                                                obtain ⟨hx34_0, hf34_0⟩ := Kd.R_celln 0 HO_5.out (x37_3 : Int) p34 q34
                                                replace p34 := eq_true p34
                                                replace q34 := eq_true q34
                                                have HP36 := Kd.R_putg HO_5.out (x37_3 : Int) (wrap64 (x7_2 + 1))
                                                go_wp2_with (first | ((with_reducible refine gate_store (t := 3) (p := 71) rfl ?_); refine store_event (t := 3) (p := 71) (v := ?vo_w37) (w1 := (wr.setCell ⟨go34, (x37_3 : Int).toNat, none⟩ (.int .i64 (wrap64 (x7_2 + 1))))) ?hg ?ho ?hn ?hr ?_; (case ho => rfl); (case hg => rfl); (case hn => rfl); (case hr => first | (go_simp; done) | (go_simp; rfl)); intro w37 hw; have hg : wr.grownBy w37 (some go34) := (by rw [hw]; exact HP36.2); have hp_ : Kd.R (Kd.int .i64) 3 w37 w.heap.size (fun _ => True) (.slice (some ⟨go34, 0, none⟩) x5_4.length co35) y222 := (by rw [hw, Ny222.out]; exact HP36.1); clear HP36; have n0_ := Aside0.mk (hp_); have n1_ := Aside0.mk ((by rw [hw]; exact below_set (HB.out) GB34.out : Below w.heap.size w w37)); clear HO_5; clear HB; have HO_5 := n0_; have HB := n1_; clear n0_ n1_; clear hg hw hp_))
                                                go_roundg k4
                                                case measure => have := HK1.out; have := HK2.out; have := HK3.out; have := HK4.out; omega
                                                case rel => exact ⟨(y222), (wrap64 (x42_4 + 1)), (by first | rfl | (simp; done) | (simp [*]; done)), H', ⟨by have := HK1.out; have := HK2.out; have := HK3.out; have := HK4.out; omega⟩, ⟨by (with_reducible repeat (first | apply Kd.R_alloc | apply Kd.R_drewN | apply Kd.R_drew)); exact HO_5.out⟩, ⟨by repeat (first | (with_reducible first | exact HB.out | apply below_alloc | apply pw_below_drewN | apply below_drew1) | exact HB.out)⟩⟩
                                              · replace c33 := Bool.eq_false_iff.mpr c33
                                                subst c33
                                                have H1 : (clepsydraref15_Shortest.l3 k4 l0 l1 x5_4 x7_2 x37_3 (l0.length : Int) x37_3 (l0.length : Int) (wrap64 (x42_4 + 1))) = some r := by rw [if_neg (show ¬ (false = true) by decide)] at H; exact H
                                                clear H
                                                have H := H1
                                                clear H1
                                                have H' := Aside0.mk H
                                                clear H
                                                obtain ⟨Ao38, co38, eo38⟩ := Kd.R_slice HO_5.out
                                                subst eo38
                                                have p218 : 0 ≤ (x37_3 : Int) := of_decide_eq_true (by first | (with_reducible assumption) | assumption)
                                                have q218 : x37_3 < (x5_4.length : Int) := of_decide_eq_true (by first | (with_reducible assumption) | assumption)
                                                obtain ⟨ad218, e218, hx218_0⟩ := Kd.at_int (Kd.R_reads' HO_5.out).2.2 x37_3 p218 q218
                                                cases e218
                                                replace p218 := eq_true p218
                                                replace q218 := eq_true q218
                                                have p219 : 0 ≤ (x42_4 : Int) := of_decide_eq_true (by first | (with_reducible assumption) | assumption)
                                                have q219 : x42_4 < (x5_4.length : Int) := of_decide_eq_true (by first | (with_reducible assumption) | assumption)
                                                obtain ⟨ad219, e219, hx219_0⟩ := Kd.at_int (Kd.R_reads' HO_5.out).2.2 x42_4 p219 q219
                                                obtain rfl : ad218 = ad219 := (by injection e219)
                                                replace p219 := eq_true p219
                                                replace q219 := eq_true q219
                                                have p220 : 0 ≤ (x37_3 : Int) := of_decide_eq_true (by first | (with_reducible assumption) | assumption)
                                                have q220 : x37_3 < (l1.length : Int) := of_decide_eq_true (by first | (with_reducible assumption) | assumption)
                                                obtain ⟨ad220, A220_0, c220_0, e220, hx220_0, hl220_0, hi220_0⟩ := at_L7 HR1.out x37_3 p220 q220
                                                cases e220
                                                replace hx220_0 := (HB.out.cell (World.block_lt_of_cell? w _ hx220_0)).trans hx220_0
                                                have HR220_0 := Aside0.mk hi220_0
                                                have HC220_0 := Aside0.mk hl220_0
                                                clear hi220_0 hl220_0
                                                replace p220 := eq_true p220
                                                replace q220 := eq_true q220
                                                have p221 : 0 ≤ (x42_4 : Int) := of_decide_eq_true (by first | (with_reducible assumption) | assumption)
                                                have q221 : x42_4 < ((rd_L7 l1 x37_3).length : Int) := of_decide_eq_true (by first | (with_reducible assumption) | assumption)
                                                obtain ⟨ad221, e221, hx221_0⟩ := Kd.at_bool HR220_0.out x42_4 p221 q221
                                                (try rw [← Nbq32.out] at hx221_0)
                                                cases e221
                                                replace hx221_0 := (HB.out.cell (World.block_lt_of_cell? w _ hx221_0)).trans hx221_0
                                                replace p221 := eq_true p221
                                                replace q221 := eq_true q221
                                                go_wp2
                                                go_roundg k4
                                                case measure => have := HK1.out; have := HK2.out; have := HK3.out; have := HK4.out; omega
                                                case rel => exact ⟨(x5_4), (wrap64 (x42_4 + 1)), (by first | rfl | (simp; done) | (simp [*]; done)), H', ⟨by have := HK1.out; have := HK2.out; have := HK3.out; have := HK4.out; omega⟩, ⟨by (with_reducible repeat (first | apply Kd.R_alloc | apply Kd.R_drewN | apply Kd.R_drew)); exact HO_5.out⟩, ⟨by repeat (first | (with_reducible first | exact HB.out | apply below_alloc | apply pw_below_drewN | apply below_drew1) | exact HB.out)⟩⟩
                                            · rw [if_neg c31] at H
                                              exact absurd H (by simp)
                                          · rw [if_neg c30] at H
                                            exact absurd H (by simp)
                                        · rw [if_neg c29] at H
                                          have c29b0 : ((rd x5_4 x42_4) == x7_2) = false := beq_eq_false_iff_ne.mpr c29
                                          have c29b1 : ((rd x5_4 x42_4) != x7_2) = true := bne_iff_ne.mpr c29
                                          have H' := Aside0.mk H
                                          clear H
                                          obtain ⟨Ao39, co39, eo39⟩ := Kd.R_slice HO_5.out
                                          subst eo39
                                          have p218 : 0 ≤ (x37_3 : Int) := of_decide_eq_true (by first | (with_reducible assumption) | assumption)
                                          have q218 : x37_3 < (x5_4.length : Int) := of_decide_eq_true (by first | (with_reducible assumption) | assumption)
                                          obtain ⟨ad218, e218, hx218_0⟩ := Kd.at_int (Kd.R_reads' HO_5.out).2.2 x37_3 p218 q218
                                          cases e218
                                          replace p218 := eq_true p218
                                          replace q218 := eq_true q218
                                          have p219 : 0 ≤ (x42_4 : Int) := of_decide_eq_true (by first | (with_reducible assumption) | assumption)
                                          have q219 : x42_4 < (x5_4.length : Int) := of_decide_eq_true (by first | (with_reducible assumption) | assumption)
                                          obtain ⟨ad219, e219, hx219_0⟩ := Kd.at_int (Kd.R_reads' HO_5.out).2.2 x42_4 p219 q219
                                          obtain rfl : ad218 = ad219 := (by injection e219)
                                          replace p219 := eq_true p219
                                          replace q219 := eq_true q219
                                          go_wp2
                                          go_roundg k4
                                          case measure => have := HK1.out; have := HK2.out; have := HK3.out; have := HK4.out; omega
                                          case rel => exact ⟨(x5_4), (wrap64 (x42_4 + 1)), (by first | rfl | (simp; done) | (simp [*]; done)), H', ⟨by have := HK1.out; have := HK2.out; have := HK3.out; have := HK4.out; omega⟩, ⟨by (with_reducible repeat (first | apply Kd.R_alloc | apply Kd.R_drewN | apply Kd.R_drew)); exact HO_5.out⟩, ⟨by repeat (first | (with_reducible first | exact HB.out | apply below_alloc | apply pw_below_drewN | apply below_drew1) | exact HB.out)⟩⟩
                                      · rw [if_neg c28] at H
                                        exact absurd H (by simp)
                                    · rw [if_neg c27] at H
                                      exact absurd H (by simp)
                                  · rw [if_neg c26] at H
                                    have c26b0 : decide ((rd x5_4 x37_3) < 0) = false := decide_eq_false c26
                                    clear c26
                                    have H' := Aside0.mk H
                                    clear H
                                    obtain ⟨Ao40, co40, eo40⟩ := Kd.R_slice HO_5.out
                                    subst eo40
                                    have p218 : 0 ≤ (x37_3 : Int) := of_decide_eq_true (by first | (with_reducible assumption) | assumption)
                                    have q218 : x37_3 < (x5_4.length : Int) := of_decide_eq_true (by first | (with_reducible assumption) | assumption)
                                    obtain ⟨ad218, e218, hx218_0⟩ := Kd.at_int (Kd.R_reads' HO_5.out).2.2 x37_3 p218 q218
                                    cases e218
                                    replace p218 := eq_true p218
                                    replace q218 := eq_true q218
                                    go_wp2
                                    go_roundg k4
                                    case measure => have := HK1.out; have := HK2.out; have := HK3.out; have := HK4.out; omega
                                    case rel => exact ⟨(x5_4), (wrap64 (x42_4 + 1)), (by first | rfl | (simp; done) | (simp [*]; done)), H', ⟨by have := HK1.out; have := HK2.out; have := HK3.out; have := HK4.out; omega⟩, ⟨by (with_reducible repeat (first | apply Kd.R_alloc | apply Kd.R_drewN | apply Kd.R_drew)); exact HO_5.out⟩, ⟨by repeat (first | (with_reducible first | exact HB.out | apply below_alloc | apply pw_below_drewN | apply below_drew1) | exact HB.out)⟩⟩
                                · rw [if_neg c25] at H
                                  exact absurd H (by simp)
                              · rw [if_neg c24] at H
                                exact absurd H (by simp)
                            · rw [if_neg c23] at H
                              have c23b0 : decide (x42_4 < (l0.length : Int)) = false := decide_eq_false c23
                              clear c23
                              have H' := Aside0.mk H
                              clear H
                              go_wp2
                              go_roundg k4
                              case measure => have := HK1.out; have := HK2.out; have := HK3.out; have := HK4.out; omega
                              case rel => exact ⟨(x5_4), (wrap64 (x37_3 + 1)), (by first | rfl | (simp; done) | (simp [*]; done)), H', ⟨by have := HK1.out; have := HK2.out; have := HK3.out; have := HK4.out; omega⟩, ⟨by (with_reducible repeat (first | apply Kd.R_alloc | apply Kd.R_drewN | apply Kd.R_drew)); exact HO_5.out⟩, ⟨by repeat (first | (with_reducible first | exact HB.out | apply below_alloc | apply pw_below_drewN | apply below_drew1) | exact HB.out)⟩⟩
                      · rw [if_neg c22] at H
                        have c22b0 : decide (x37_3 < (l0.length : Int)) = false := decide_eq_false c22
                        clear c22
                        have H' := Aside0.mk H
                        clear H
                        go_wp2
                        go_roundg k3
                        case measure => have := HK1.out; have := HK2.out; have := HK3.out; omega
                        case rel => exact ⟨(x5_3), (wrap64 (x7_2 + 1)), (by first | rfl | (simp; done) | (simp [*]; done)), H', ⟨by have := HK1.out; have := HK2.out; have := HK3.out; omega⟩, ⟨by (with_reducible repeat (first | apply Kd.R_alloc | apply Kd.R_drewN | apply Kd.R_drew)); exact HO_5.out⟩, ⟨by repeat (first | (with_reducible first | exact HB.out | apply below_alloc | apply pw_below_drewN | apply below_drew1) | exact HB.out)⟩⟩
                · rw [if_neg c21] at H
                  have c21b0 : decide (x7_2 < (l0.length : Int)) = false := decide_eq_false c21
                  clear c21
                  obtain rfl := Option.some.inj H
                  go_wp2
                  go_ret
                  exact ⟨_, by first | rfl | (simp [errW_none, errW_some] <;> rfl) | (simp [*, errW_none, errW_some] <;> rfl), by (with_reducible repeat (first | apply Kd.R_alloc | apply Kd.R_drewN | apply Kd.R_drew)); exact HO_5.out, by repeat (first | (with_reducible first | exact HB.out | apply below_alloc | apply pw_below_drewN | apply below_drew1) | exact HB.out)⟩
    · rw [if_neg c4] at H
      exact absurd H (by simp)
  · rw [if_neg c3] at H
    exact absurd H (by simp)

end Go.Proofs.Ytaiggeogiolbnaa.K
