/- Plain laws for near times: their pulses part by one at most. -/
import Derived.Test.YtdnddekoankmmaaV1
import Derived.Test.YtdnddekoankmmaaV2
import Derived.Test.YtdnddekoankmmaaPl
namespace Go.Proofs.Ytdnddekoankmmaa.V
open Go.RowKit Go.Proofs.YtdnddekoankmmaaW.PrintWords Go.Proofs.YtdnddekoankmmaaW.PrintLast Go.Proofs.YtdnddekoankmmaaW.PrintMore Go.Proofs.YtdnddekoankmmaaPl
theorem sat_Bound_f (k : Nat) (x lo hi : Int) (h : lo ≤ hi) : sat_Bound.f (k + 1) x lo hi = some (if x < lo then lo else if x > hi then hi else x) := by
  unfold sat_Bound.f
  by_cases h1 : x < lo
  · rw [if_pos h1, if_pos h1]; simp [sat_Bound.j0]
  · rw [if_neg h1, if_neg h1, decide_eq_false (by omega : ¬ hi < lo)]
    simp only [sat_Bound.j0]
    by_cases h2 : x > hi
    · rw [if_neg (by simp), if_pos h2, if_pos h2]
    · rw [if_neg (by simp), if_neg h2, if_neg h2]
theorem sat_Clip_f (k : Nat) (x : Int) : sat_Clip.f (k + 1) x = some (clip x) := by
  unfold sat_Clip.f
  rw [sat_Bound_f k x _ _ (by omega)]
  rfl
theorem wide_Div_f (k : Nat) (a c : Int) : wide_Div.f (k + 1) a c = some (dv a c, md a c) := by
  unfold wide_Div.f
  rw [sat_Clip_f, sat_Clip_f]
  simp only [Option.bind_some, mx_one]
  have h1 := clip_bd a
  have h2 := one_bd c
  have h3 := tdown (a := clip a) (c := Go.Proofs.YtdnddekoankmmaaPl.one c) (by omega)
  have h4 := tdiv_bd (a := clip a) h2.1 h1.1 h1.2
  have h5 := tmod_bd (a := clip a) h2.1
  rw [if_neg (by omega)]
  unfold dv md
  by_cases g : (clip a).tmod (Go.Proofs.YtdnddekoankmmaaPl.one c) < 0
  · rw [if_pos g, wrap_id (x := (clip a).tdiv (Go.Proofs.YtdnddekoankmmaaPl.one c)) (by omega) (by omega), wrap_id (by omega) (by omega), wrap_id (by omega) (by omega), (h3.1 g).1, (h3.1 g).2]
  · rw [if_neg g, wrap_id (by omega) (by omega), (h3.2 g).1, (h3.2 g).2]
theorem pulse_Number_f (k : Nat) (b0 b1 b2 b3 b4 b5 b6 b7 b8 b9 pu b11 t : Int) : pulse_Number.f (k + 1) b0 b1 b2 b3 b4 b5 b6 b7 b8 b9 pu b11 t = some (dv t pu) := by
  unfold pulse_Number.f
  rw [wide_Div_f]
  rfl
theorem pulse_Fired_l0 (b0 b1 b2 b3 b4 b5 b6 b7 b8 b9 pu b11 t most : Int) (hm : most ≤ 1024) : ∀ (c k : Nat) (acc : List Int) (x : Int), -2305843009213693952 ≤ x → x ≤ 2305843009213693953 → min (dv t pu - x + 1) (most - acc.length) ≤ c → (0 < c → min (dv t pu - x + 1) (most - acc.length) = c) → c + 1 < k →
    pulse_Fired.l0 k t most acc x b0 b1 b2 b3 b4 b5 b6 b7 b8 b9 pu b11 = some (acc ++ runl x c) := by
  intro c
  induction c with
  | zero =>
    intro k acc n h0 h1 hd _ hk
    obtain ⟨k, rfl⟩ : ∃ m, k = m + 2 := ⟨k - 2, by omega⟩
    rw [pulse_Fired.l0, pulse_Number_f]; simp only [Option.bind_some, runl_zero, List.append_nil]
    by_cases h : n ≤ dv t pu
    · rw [if_pos h, if_neg (by omega)]
    · rw [if_neg h]
  | succ c ih =>
    intro k acc n h0 h1 _ hd hk
    have hd := hd (by omega)
    obtain ⟨k, rfl⟩ : ∃ m, k = m + 2 := ⟨k - 2, by omega⟩
    have hb := dv_bd t pu
    have e := ih (k + 1) (acc ++ [n]) (n + 1) (by omega) (by omega) (by simp; omega) (by intro _; simp; omega) (by omega)
    rw [pulse_Fired.l0, pulse_Number_f]; simp only [Option.bind_some]
    rw [if_pos (by omega), if_pos (by omega), if_pos (by omega), wrap_id (x := n + 1) (by omega) (by omega), e, runl_succ, List.append_assoc]
    rfl
theorem pulse_Fired_f (k : Nat) (b0 b1 b2 b3 b4 b5 b6 b7 b8 b9 pu b11 a t most : Int) (hm : most ≤ 1024) (hk : 1030 ≤ k) :
    pulse_Fired.f k b0 b1 b2 b3 b4 b5 b6 b7 b8 b9 pu b11 a t most = some (runl (dv a pu + 1) (min (dv t pu - dv a pu) most).toNat) := by
  have hb := dv_bd a pu
  obtain ⟨k, rfl⟩ : ∃ m, k = m + 1 := ⟨k - 1, by omega⟩
  unfold pulse_Fired.f
  rw [pulse_Number_f]
  simp only [Option.bind_some]
  rw [wrap_id (by omega) (by omega), pulse_Fired_l0 b0 b1 b2 b3 b4 b5 b6 b7 b8 b9 pu b11 t most hm (min (dv t pu - dv a pu) most).toNat (k + 1) [] (dv a pu + 1) (by omega) (by omega) (by simp; omega) (by intro h; simp; omega) (by omega)]
  rfl
theorem alive13_f (k : Nat) (h : 60 ≤ k) : clepsydralaw13_alive.f k = some true :=
  at_rounds clepsydralaw13_alive.mono h (show clepsydralaw13_alive.f 60 = some true by decide +kernel)
theorem Phase_f (k : Nat) (b0 b1 b2 b3 b4 b5 b6 b7 b8 b9 pu b11 t : Int) : pulse_Phase.f (k + 1) b0 b1 b2 b3 b4 b5 b6 b7 b8 b9 pu b11 t = some (md t pu) := by
  unfold pulse_Phase.f
  rw [wide_Div_f]
  rfl
/-- The pulse's length, where it is at least one. -/
theorem one_pos {pu : Int} (h : 1 ≤ pu) : Go.Proofs.YtdnddekoankmmaaPl.one pu = clip pu := by
  unfold Go.Proofs.YtdnddekoankmmaaPl.one clip
  repeat' split <;> omega
theorem near_facts {a b pu : Int} (hp : 1 ≤ pu) (ha : -1152921504606846976 ≤ a) (hb : b ≤ 1152921504606846976) (hab : a ≤ b) (hd : b - a ≤ pu) :
    0 ≤ dv b pu - dv a pu ∧ dv b pu - dv a pu ≤ 1 ∧ Go.Proofs.YtdnddekoankmmaaPl.one pu * dv a pu + md a pu = a ∧ -2305843009213693952 ≤ Go.Proofs.YtdnddekoankmmaaPl.one pu * dv a pu ∧ Go.Proofs.YtdnddekoankmmaaPl.one pu * dv a pu ≤ 2305843009213693952 := by
  have h1 := dv_md a pu
  have h2 := md_bd a pu
  have h3 := dv_md b pu
  have h4 := md_bd b pu
  rw [clip_id (by omega) (by omega)] at h1 h3
  have hc : 1 ≤ Go.Proofs.YtdnddekoankmmaaPl.one pu ∧ Go.Proofs.YtdnddekoankmmaaPl.one pu ≤ 2305843009213693952 ∧ (Go.Proofs.YtdnddekoankmmaaPl.one pu = pu ∨ Go.Proofs.YtdnddekoankmmaaPl.one pu = 2305843009213693952) := by
    rw [one_pos hp]
    unfold clip
    repeat' split <;> omega
  have hm := dv_mono (c := pu) hab
  generalize Go.Proofs.YtdnddekoankmmaaPl.one pu = c at *
  generalize md a pu = ra at *
  generalize md b pu = rb at *
  generalize dv a pu = x at *
  generalize dv b pu = y at *
  have hy : y - x ≤ 1 := by
    by_cases g : y - x ≤ 1
    · exact g
    · have hk : c * (y - x) ≥ c * 2 := Int.mul_le_mul_of_nonneg_left (by omega) (by omega)
      rw [Int.mul_sub] at hk
      omega
  refine ⟨by omega, hy, h1, ?_, by omega⟩
  by_cases g : -1 ≤ x
  · have hk : c * (-1) ≤ c * x := Int.mul_le_mul_of_nonneg_left g (by omega)
    omega
  · have hk : c * (x + 1) ≤ c * (-1) := Int.mul_le_mul_of_nonneg_left (by omega) (by omega)
    rw [Int.mul_add] at hk
    omega
theorem Abs_f (k : Nat) (x : Int) : sat_Abs.f (k + 1) x = some (if clip x < 0 then -clip x else clip x) := by
  have h := clip_bd x
  unfold sat_Abs.f sat_Neg.f
  rw [sat_Clip_f]
  simp only [Option.bind_some]
  rw [wrap_id (by omega) (by omega)]
  by_cases g : x < 0
  · rw [if_pos g]
    have : clip x < 0 := by unfold clip; repeat' split <;> omega
    rw [if_pos this]
  · rw [if_neg g]
    have : ¬ clip x < 0 := by unfold clip; repeat' split <;> omega
    rw [if_neg this]
theorem Max_f (k : Nat) (pu : Int) (hp : 1 ≤ pu) : sat_Max.f (k + 4) [pu, 1] = some (Go.Proofs.YtdnddekoankmmaaPl.one pu) := by
  have h1 := clip_bd pu
  have h2 := one_pos hp
  have h3 := one_bd pu
  have c1 : clip 1 = 1 := clip_id (by omega) (by omega)
  unfold sat_Max.f
  rw [sat_Max.l0, if_pos (by simp), if_pos (by decide), if_pos (by simp), show rd [pu, 1] 0 = pu from rfl, sat_Clip_f (k + 2)]
  simp only [Option.bind_some]
  rw [show wrap64 (0 + 1) = 1 from wrap_id (by decide) (by decide), sat_Max.l0, if_pos (by simp), if_pos (by decide), if_pos (by simp), show rd [pu, 1] 1 = 1 from rfl, sat_Clip_f (k + 1)]
  simp only [Option.bind_some]
  rw [show wrap64 (1 + 1) = 2 from wrap_id (by decide) (by decide), sat_Max.l0, if_neg (by simp), c1, h2]
  congr 1
  unfold mx
  repeat' split <;> omega
theorem Mul_f (k : Nat) (x c : Int) (hx0 : -2305843009213693952 ≤ x) (hx1 : x ≤ 2305843009213693952) (hc0 : 1 ≤ c) (hc1 : c ≤ 2305843009213693952) (h0 : -2305843009213693952 ≤ c * x) (h1 : c * x ≤ 2305843009213693952) : sat_Mul.f (k + 2) x c = some (c * x) := by
  unfold sat_Mul.f
  rw [Abs_f (k + 1), Abs_f (k + 1), clip_id hx0 hx1, clip_id (by omega) hc1, if_neg (show ¬ c < 0 by omega)]
  simp only [Option.bind_some]
  have ec : decide (c < 0) = false := decide_eq_false (by omega)
  by_cases g : x < 0
  · have ex : decide (x < 0) = true := decide_eq_true g
    rw [if_pos g, if_neg (by omega)]
    have hd : c ≤ 2305843009213693952 / (-x) := (Int.le_ediv_iff_mul_le (by omega)).2 (by rw [Int.mul_neg]; omega)
    have hd2 : 2305843009213693952 / (-x) ≤ 2305843009213693952 := Int.ediv_le_self _ (by omega)
    have hm : -x * c = -(c * x) := by rw [Int.neg_mul, Int.mul_comm]
    rw [wrap_id (x := 2305843009213693952 / (-x)) (by omega) (by omega), decide_eq_true hd, sat_Mul.j0, if_pos rfl, ex, ec, if_pos (by decide), hm, wrap_id (x := -(c * x)) (by omega) (by omega), Int.neg_neg, wrap_id (by omega) (by omega)]
  · have ex : decide (x < 0) = false := decide_eq_false g
    rw [if_neg g]
    have hm : x * c = c * x := Int.mul_comm _ _
    by_cases hz : x = 0
    · subst hz
      rw [if_pos rfl, sat_Mul.j0, if_pos rfl, ec, if_neg (by simp), hm, wrap_id (by omega) (by omega)]
    · rw [if_neg hz]
      have hd : c ≤ 2305843009213693952 / x := (Int.le_ediv_iff_mul_le (by omega)).2 h1
      have hd2 : 2305843009213693952 / x ≤ 2305843009213693952 := Int.ediv_le_self _ (by omega)
      rw [wrap_id (x := 2305843009213693952 / x) (by omega) (by omega), decide_eq_true hd, sat_Mul.j0, if_pos rfl, ex, ec, if_neg (by simp), hm, wrap_id (by omega) (by omega)]
theorem Begin_f (k : Nat) (b0 b1 b2 b3 b4 b5 b6 b7 b8 b9 pu b11 x : Int) (hp : 1 ≤ pu) (hx0 : -2305843009213693952 ≤ x) (hx1 : x ≤ 2305843009213693952) (h0 : -2305843009213693952 ≤ Go.Proofs.YtdnddekoankmmaaPl.one pu * x) (h1 : Go.Proofs.YtdnddekoankmmaaPl.one pu * x ≤ 2305843009213693952) :
    pulse_Begin.f (k + 4) b0 b1 b2 b3 b4 b5 b6 b7 b8 b9 pu b11 x = some (Go.Proofs.YtdnddekoankmmaaPl.one pu * x) := by
  have hb := one_bd pu
  unfold pulse_Begin.f
  rw [Max_f k pu hp]
  simp only [Option.bind_some]
  rw [Mul_f (k + 2) x _ hx0 hx1 hb.1 hb.2 h0 h1]
  rfl
end Go.Proofs.Ytdnddekoankmmaa.V
