/- PulseFires: what Fired answers is what the document says, of all numbers. -/
import Derived.Test.YtdnddekoankmmaaPPulseFiresx2
import Derived.Test.YtdnddekoankmmaaPl
namespace Go.Proofs.Ytdnddekoankmmaa.Pure
open Go.RowKit Go.Proofs.Ytdnddekoankmmaa.PPulseFires Go.Proofs.YtdnddekoankmmaaW.PrintWords Go.Proofs.YtdnddekoankmmaaW.PrintLast Go.Proofs.YtdnddekoankmmaaW.PrintMore Go.Proofs.YtdnddekoankmmaaPl
theorem sat_Bound_f (k : Nat) (x lo hi : Int) (h : lo ≤ hi) : sat_Bound.f (k + 1) x lo hi = some (if x < lo then lo else if x > hi then hi else x) := by
  unfold sat_Bound.f
  by_cases h1 : x < lo
  · rw [if_pos h1, if_pos h1]; simp [sat_Bound.j0]
  · rw [if_neg h1, if_neg h1, decide_eq_false (by omega : ¬ hi < lo)]
    simp only [sat_Bound.j0]
    by_cases h2 : x > hi
    · rw [if_neg (by simp), if_pos h2, if_pos h2]
    · rw [if_neg (by simp), if_neg h2, if_neg h2]
theorem sat_Clip_f (k : Nat) (x : Int) : sat_Clip.f (k + 1) x = some (clip x) := by
  unfold sat_Clip.f
  rw [sat_Bound_f k x _ _ (by omega)]
  rfl
theorem wide_Div_f (k : Nat) (a c : Int) : wide_Div.f (k + 1) a c = some (dv a c, md a c) := by
  unfold wide_Div.f
  rw [sat_Clip_f, sat_Clip_f]
  simp only [Option.bind_some, mx_one]
  have h1 := clip_bd a
  have h2 := one_bd c
  have h3 := tdown (a := clip a) (c := one c) (by omega)
  have h4 := tdiv_bd (a := clip a) h2.1 h1.1 h1.2
  have h5 := tmod_bd (a := clip a) h2.1
  rw [if_neg (by omega)]
  unfold dv md
  by_cases g : (clip a).tmod (one c) < 0
  · rw [if_pos g, wrap_id (x := (clip a).tdiv (one c)) (by omega) (by omega), wrap_id (by omega) (by omega), wrap_id (by omega) (by omega), (h3.1 g).1, (h3.1 g).2]
  · rw [if_neg g, wrap_id (by omega) (by omega), (h3.2 g).1, (h3.2 g).2]
theorem pulse_Number_f (k : Nat) (b0 b1 b2 b3 b4 b5 b6 b7 b8 b9 pu b11 t : Int) : pulse_Number.f (k + 1) b0 b1 b2 b3 b4 b5 b6 b7 b8 b9 pu b11 t = some (dv t pu) := by
  unfold pulse_Number.f
  rw [wide_Div_f]
  rfl
theorem ref01_Clip_f (x : Int) : clepsydraref01_Clip.f x = some (clip x) := by
  unfold clepsydraref01_Clip.f clip
  by_cases h1 : x > 2305843009213693952
  · rw [if_pos h1, if_neg (by omega), if_pos h1]
  · rw [if_neg h1]
    by_cases h2 : x < -2305843009213693952
    · rw [if_pos h2, if_pos h2]
    · rw [if_neg h2, if_neg h2, if_neg h1]
theorem ref02_one_f (c : Int) : clepsydraref02_one.f c = some (one c) := by
  unfold clepsydraref02_one.f one
  rw [ref01_Clip_f]
  simp only [Option.bind_some]
  by_cases h : clip c < 1
  · rw [if_pos h, if_pos h]
  · rw [if_neg h, if_neg h]
theorem ref02_Div_f (a c : Int) : clepsydraref02_Div.f a c = some (dv a c, md a c) := by
  unfold clepsydraref02_Div.f
  rw [ref01_Clip_f, ref02_one_f]
  simp only [Option.bind_some]
  have h1 := clip_bd a
  have h2 := one_bd c
  have h3 := tdown (a := clip a) (c := one c) (by omega)
  have h4 := tdiv_bd (a := clip a) h2.1 h1.1 h1.2
  have h5 := tmod_bd (a := clip a) h2.1
  have h6 : one c * (clip a).tdiv (one c) + (clip a).tmod (one c) = clip a := Int.mul_tdiv_add_tmod _ _
  rw [if_neg (by omega)]
  unfold dv md
  by_cases g : (clip a).tmod (one c) < 0
  · have e : clip a - ((clip a).tmod (one c) + one c) = ((clip a).tdiv (one c) - 1) * one c := by rw [Int.sub_mul, Int.mul_comm ((clip a).tdiv (one c)), Int.one_mul]; omega
    rw [if_pos g, wrap_id (x := (clip a).tmod (one c) + one c) (by omega) (by omega), wrap_id (x := clip a - _) (by omega) (by omega), e, Int.mul_tdiv_cancel _ (by omega), wrap_id (by omega) (by omega), (h3.1 g).1, (h3.1 g).2]
  · have e : clip a - (clip a).tmod (one c) = ((clip a).tdiv (one c)) * one c := by rw [Int.mul_comm ((clip a).tdiv (one c))]; omega
    rw [if_neg g, wrap_id (x := clip a - _) (by omega) (by omega), e, Int.mul_tdiv_cancel _ (by omega), wrap_id (by omega) (by omega), (h3.2 g).1, (h3.2 g).2]
theorem ref09_Same_l0 (l : List Int) (hl : l.length ≤ 9223372036854775806) : ∀ (d k : Nat) (i : Int), 0 ≤ i → i ≤ l.length → (l.length : Int) - i = d → d < k → clepsydraref09_Same.l0 k l l (l.length : Int) i = some true := by
  intro d
  induction d with
  | zero =>
    intro k i h0 h1 hd hk
    obtain ⟨k, rfl⟩ : ∃ m, k = m + 1 := ⟨k - 1, by omega⟩
    simp only [clepsydraref09_Same.l0]; rw [if_neg (by omega)]
  | succ d ih =>
    intro k i h0 h1 hd hk
    obtain ⟨k, rfl⟩ : ∃ m, k = m + 1 := ⟨k - 1, by omega⟩
    simp only [clepsydraref09_Same.l0]
    rw [if_pos (by omega), if_pos h0, if_pos (by omega), if_pos (by omega), if_pos trivial, wrap_id (by omega) (by omega)]
    exact ih k (i + 1) (by omega) (by omega) (by omega) (by omega)
theorem ref09_Same_refl (k : Nat) (l : List Int) (hl : l.length < k) (h2 : l.length ≤ 9223372036854775806) : clepsydraref09_Same.f k l l = some true := by
  unfold clepsydraref09_Same.f
  rw [if_pos rfl]
  exact ref09_Same_l0 l h2 l.length k 0 (by omega) (by omega) (by omega) (by omega)
theorem alive_f (k : Nat) (h : 50 ≤ k) : clepsydralaw13_alive.f k = some true :=
  at_rounds clepsydralaw13_alive.mono h (show clepsydralaw13_alive.f 50 = some true by decide +kernel)
/-- The two loops, round for round. -/
theorem both (b0 b1 b2 b3 b4 b5 b6 b7 b8 b9 pu b11 t most : Int) (hm : most ≤ 1024) : ∀ (d k : Nat) (acc : List Int) (n : Int), -2305843009213693952 ≤ n → n ≤ 2305843009213693953 → (most - acc.length).toNat = d → acc.length ≤ 1024 → d + 1 < k →
    ∃ r : List Int, r.length ≤ 1024 ∧ pulse_Fired.l0 k t most acc (n + 1) b0 b1 b2 b3 b4 b5 b6 b7 b8 b9 pu b11 = some r ∧ clepsydraref13_Fired.l0 k t most acc n b0 b1 b2 b3 b4 b5 b6 b7 b8 b9 pu b11 = some r := by
  intro d
  induction d with
  | zero =>
    intro k acc n h0 h1 hd hl hk
    obtain ⟨k, rfl⟩ : ∃ m, k = m + 2 := ⟨k - 2, by omega⟩
    refine ⟨acc, hl, ?_, ?_⟩
    · simp only [pulse_Fired.l0]; rw [pulse_Number_f]; simp only [Option.bind_some]
      split
      · rw [if_neg (by omega)]
      · rfl
    · simp only [clepsydraref13_Fired.l0]; rw [if_neg (by omega)]
  | succ d ih =>
    intro k acc n h0 h1 hd hl hk
    obtain ⟨k, rfl⟩ : ∃ m, k = m + 2 := ⟨k - 2, by omega⟩
    have hb := dv_bd t pu
    by_cases h : n + 1 ≤ dv t pu
    · obtain ⟨r, hr, e1, e2⟩ := ih (k + 1) (acc ++ [n + 1]) (n + 1) (by omega) (by omega) (by simp; omega) (by simp; omega) (by omega)
      refine ⟨r, hr, ?_, ?_⟩
      · rw [pulse_Fired.l0, pulse_Number_f]; simp only [Option.bind_some]
        rw [if_pos h, if_pos (by omega), if_pos (by omega), wrap_id (x := n + 1 + 1) (by omega) (by omega)]
        exact e1
      · rw [clepsydraref13_Fired.l0, clepsydraref13_Number.f, ref02_Div_f]; simp only [Option.bind_some]
        rw [if_pos (by omega), if_pos (by omega), if_pos (by omega), wrap_id (x := n + 1) (by omega) (by omega)]
        exact e2
    · refine ⟨acc, hl, ?_, ?_⟩
      · rw [pulse_Fired.l0, pulse_Number_f]; simp only [Option.bind_some]
        rw [if_neg h]
      · rw [clepsydraref13_Fired.l0, clepsydraref13_Number.f, ref02_Div_f]; simp only [Option.bind_some]
        rw [if_pos (by omega), if_neg (by omega)]

theorem PulseFires : ∀ (a0_0 : Int) (a0_1 : Int) (a0_2 : Int) (a0_3 : Int) (a0_4 : Int) (a0_5 : Int) (a0_6 : Int) (a0_7 : Int) (a0_8 : Int) (a0_9 : Int) (a0_10 : Int) (a0_11 : Int) (a1 : Int) (a2 : Int) (a3 : Int), (Lit.int .i64 a0_0).wf = true → (Lit.int .i64 a0_1).wf = true → (Lit.int .i64 a0_2).wf = true → (Lit.int .i64 a0_3).wf = true → (Lit.int .i64 a0_4).wf = true → (Lit.int .i64 a0_5).wf = true → (Lit.int .i64 a0_6).wf = true → (Lit.int .i64 a0_7).wf = true → (Lit.int .i64 a0_8).wf = true → (Lit.int .i64 a0_9).wf = true → (Lit.int .i64 a0_10).wf = true → (Lit.int .i64 a0_11).wf = true → (Lit.int .i64 a1).wf = true → (Lit.int .i64 a2).wf = true → (Lit.int .i64 a3).wf = true → ∃ k, clepsydralaw13_PulseFires.f k a0_0 a0_1 a0_2 a0_3 a0_4 a0_5 a0_6 a0_7 a0_8 a0_9 a0_10 a0_11 a1 a2 a3 = some true := by
  intro b0 b1 b2 b3 b4 b5 b6 b7 b8 b9 pu b11 a t most _ _ _ _ _ _ _ _ _ _ _ _ _ _ _
  refine ⟨1500, ?_⟩
  unfold clepsydralaw13_PulseFires.f
  rw [alive_f 1500 (by omega)]
  simp only [Option.bind_some, if_true]
  by_cases h : most > 1024
  · rw [if_pos h]
  · have hb := dv_bd a pu
    obtain ⟨r, hr, e1, e2⟩ := both b0 b1 b2 b3 b4 b5 b6 b7 b8 b9 pu b11 t most (by omega) (most - ([] : List Int).length).toNat 1500 [] (dv a pu) (by omega) (by omega) rfl (by simp) (by simp; omega)
    rw [if_neg h]
    unfold pulse_Fired.f clepsydraref13_Fired.f clepsydraref13_Number.f
    rw [pulse_Number_f 1499, ref02_Div_f]
    simp only [Option.bind_some]
    rw [wrap_id (by omega) (by omega), e1, e2]
    simp only [Option.bind_some]
    rw [ref09_Same_refl _ _ (by omega) (by omega)]
    rfl

end Go.Proofs.Ytdnddekoankmmaa.Pure
