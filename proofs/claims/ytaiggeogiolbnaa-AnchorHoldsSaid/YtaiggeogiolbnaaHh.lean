/- Plain laws for AnchorHolds: the numbers that may be, and what a message's way makes of a span. -/
import Derived.Test.YtaiggeogiolbnaaHf
import Derived.Test.YtaiggeogiolbnaaH13
import Derived.Test.YtaiggeogiolbnaaH15
import Derived.Test.YtaiggeogiolbnaaH16
namespace Go.Proofs.Ytaiggeogiolbnaa.H
open Go.RowKit Go.Proofs.YtaiggeogiolbnaaW.PrintWords Go.Proofs.YtaiggeogiolbnaaW.PrintLast Go.Proofs.YtaiggeogiolbnaaW.PrintMore Go.Proofs.YtaiggeogiolbnaaPl
def seen (e r : Int) : Int × Int × Bool := if e < 0 ∨ r > 1152921504606846976 ∨ r < -1152921504606846976 then (0, 0, false) else (clip (clip r - clip e), clip (clip r + clip e), true)
theorem Sub_f (k : Nat) (a b : Int) : sat_Sub.f (k + 1) a b = some (clip (clip a - clip b)) := by
  have h1 := clip_bd a
  have h2 := clip_bd b
  unfold sat_Sub.f
  rw [Clip_f, Clip_f]
  simp only [Option.bind_some]
  rw [wrap_id (by omega) (by omega), Clip_f]
  rfl
theorem Seen_f (b0 F b2 b3 b4 b5 b6 b7 b8 b9 b10 b11 r : Int) (k : Nat) : anchor_Seen.f (k + 5) b0 F b2 b3 b4 b5 b6 b7 b8 b9 b10 b11 r = some (seen b7 r) := by
  unfold anchor_Seen.f seen
  by_cases h1 : r > 1152921504606846976
  · rw [if_pos h1, anchor_Seen.j0, if_pos rfl, if_pos (by omega)]
  rw [if_neg h1]
  by_cases h2 : r < -1152921504606846976
  · rw [if_pos h2, anchor_Seen.j0, if_pos rfl, if_pos (by omega)]
  rw [if_neg h2, anchor_Seen.j0]
  by_cases h3 : b7 < 0
  · rw [if_pos (decide_eq_true h3), if_pos (by omega)]
  rw [if_neg (by simpa using h3), if_neg (by omega), Sub_f (k + 3), Add2_f]
  rfl
theorem in_f (x a b : Int) : limit_in.f x a b = some (decide (a ≤ x ∧ x ≤ b)) := by
  unfold limit_in.f
  by_cases h : a ≤ x
  · rw [if_pos h]; simp [h]
  · rw [if_neg h]; simp [h]
theorem bind_some_ {α β : Type} (x : α) (F : α → Option β) : (some x).bind F = F x := rfl
/-- What of the numbers that may be is wanted here. -/
def Bnd (F b3 b4 b5 b6 b7 : Int) : Prop := 0 ≤ F ∧ F ≤ 16 ∧ 1 ≤ b3 ∧ b3 ≤ 1099511627776 ∧ 0 ≤ b4 ∧ b4 ≤ 1099511627776 ∧ 0 ≤ b5 ∧ b5 ≤ 1099511627776 ∧ 0 ≤ b6 ∧ b6 ≤ b5 ∧ 0 ≤ b7 ∧ b7 ≤ 1099511627776
theorem Check_j1 (k : Nat) (x3 x4 : Bool) (b0 F b2 b3 b4 b5 b6 b7 b8 b9 b10 b11 : Int) : ∃ c, limit_Check.j1 (k + 1) x3 x4 b0 F b2 b3 b4 b5 b6 b7 b8 b9 b10 b11 = some c ∧ (c = 0 → x3 = true ∧ x4 = true ∧ 0 ≤ b7 ∧ b7 ≤ 1099511627776) := by
  rw [limit_Check.j1]
  simp only [in_f]
  cases x3 with
  | false => exact ⟨1, rfl, fun h => by cases h⟩
  | true =>
    cases x4 with
    | false => exact ⟨1, rfl, fun h => by cases h⟩
    | true =>
      rw [if_pos rfl, if_pos rfl, bind_some_]
      by_cases g : 0 ≤ b7 ∧ b7 ≤ 1099511627776
      · rw [if_pos (decide_eq_true g), bind_some_]
        split
        · rw [bind_some_]
          split
          · rw [bind_some_]
            split
            · rw [bind_some_]
              split
              · exact ⟨0, rfl, fun _ => ⟨rfl, rfl, g.1, g.2⟩⟩
              · exact ⟨1, rfl, fun h => by cases h⟩
            · exact ⟨1, rfl, fun h => by cases h⟩
          · exact ⟨1, rfl, fun h => by cases h⟩
        · exact ⟨1, rfl, fun h => by cases h⟩
      · rw [if_neg (by simpa using g)]
        exact ⟨1, rfl, fun h => by cases h⟩
theorem Check_j0 (k : Nat) (x3 : Bool) (b0 F b2 b3 b4 b5 b6 b7 b8 b9 b10 b11 : Int) : ∃ c, limit_Check.j0 (k + 2) x3 b0 F b2 b3 b4 b5 b6 b7 b8 b9 b10 b11 = some c ∧ (c = 0 → x3 = true ∧ 1 ≤ b3 ∧ b3 ≤ 1099511627776 ∧ 0 ≤ b4 ∧ b4 ≤ 1099511627776 ∧ 0 ≤ b5 ∧ b5 ≤ 1099511627776 ∧ 0 ≤ b6 ∧ b6 ≤ b5 ∧ 0 ≤ b7 ∧ b7 ≤ 1099511627776) := by
  have hno : ∀ x4 : Bool, x4 = false → ∃ c, limit_Check.j1 (k + 1) x3 x4 b0 F b2 b3 b4 b5 b6 b7 b8 b9 b10 b11 = some c ∧ (c = 0 → x3 = true ∧ 1 ≤ b3 ∧ b3 ≤ 1099511627776 ∧ 0 ≤ b4 ∧ b4 ≤ 1099511627776 ∧ 0 ≤ b5 ∧ b5 ≤ 1099511627776 ∧ 0 ≤ b6 ∧ b6 ≤ b5 ∧ 0 ≤ b7 ∧ b7 ≤ 1099511627776) := fun x4 hx => by
    subst hx
    obtain ⟨c, h1, h2⟩ := Check_j1 k x3 false b0 F b2 b3 b4 b5 b6 b7 b8 b9 b10 b11
    exact ⟨c, h1, fun h => by cases (h2 h).2.1⟩
  rw [limit_Check.j0]
  rw [in_f, bind_some_]
  by_cases g3 : 1 ≤ b3 ∧ b3 ≤ 1099511627776
  · rw [if_pos (decide_eq_true g3)]
    have e8 : b3.tdiv 8 = b3 / 8 := Int.tdiv_eq_ediv_of_nonneg (by omega)
    have e2 : b3.tdiv 2 = b3 / 2 := Int.tdiv_eq_ediv_of_nonneg (by omega)
    rw [e8, e2, wrap_id (x := b3 / 8) (by omega) (by omega), wrap_id (x := b3 / 2) (by omega) (by omega), in_f, bind_some_]
    by_cases g4 : 0 ≤ b4 ∧ b4 ≤ b3 / 8
    · rw [if_pos (decide_eq_true g4), in_f, bind_some_]
      by_cases g5 : 0 ≤ b5 ∧ b5 ≤ b3 / 2
      · rw [if_pos (decide_eq_true g5), in_f, bind_some_]
        obtain ⟨c, h1, h2⟩ := Check_j1 k x3 (decide (0 ≤ b6 ∧ b6 ≤ b5)) b0 F b2 b3 b4 b5 b6 b7 b8 b9 b10 b11
        refine ⟨c, h1, fun h => ?_⟩
        obtain ⟨q1, q2, q3, q4⟩ := h2 h
        have q5 := of_decide_eq_true q2
        exact ⟨q1, by omega, by omega, by omega, by omega, by omega, by omega, by omega, by omega, q3, q4⟩
      · rw [if_neg (by simpa using g5)]
        exact hno _ rfl
    · rw [if_neg (by simpa using g4)]
      exact hno _ rfl
  · rw [if_neg (by simpa using g3)]
    exact hno _ rfl
theorem Check_f (k : Nat) (b0 F b2 b3 b4 b5 b6 b7 b8 b9 b10 b11 : Int) : ∃ c, limit_Check.f (k + 2) b0 F b2 b3 b4 b5 b6 b7 b8 b9 b10 b11 = some c ∧ (c = 0 → Bnd F b3 b4 b5 b6 b7) := by
  have hno : ∀ x3 : Bool, x3 = false → ∃ c, limit_Check.j0 (k + 2) x3 b0 F b2 b3 b4 b5 b6 b7 b8 b9 b10 b11 = some c ∧ (c = 0 → Bnd F b3 b4 b5 b6 b7) := fun x3 hx => by
    subst hx
    obtain ⟨c, h1, h2⟩ := Check_j0 k false b0 F b2 b3 b4 b5 b6 b7 b8 b9 b10 b11
    exact ⟨c, h1, fun h => by cases (h2 h).1⟩
  unfold limit_Check.f
  rw [in_f, bind_some_]
  by_cases g0 : 1 ≤ b0 ∧ b0 ≤ 16
  · rw [if_pos (decide_eq_true g0), wrap_id (x := b0 - 1) (by omega) (by omega)]
    have e3 : (b0 - 1).tdiv 3 = (b0 - 1) / 3 := Int.tdiv_eq_ediv_of_nonneg (by omega)
    rw [e3, wrap_id (x := (b0 - 1) / 3) (by omega) (by omega), in_f, bind_some_]
    by_cases g1 : 0 ≤ F ∧ F ≤ (b0 - 1) / 3
    · rw [if_pos (decide_eq_true g1), in_f, bind_some_]
      obtain ⟨c, h1, h2⟩ := Check_j0 k (decide (0 ≤ b2 ∧ b2 ≤ 16)) b0 F b2 b3 b4 b5 b6 b7 b8 b9 b10 b11
      refine ⟨c, h1, fun h => ?_⟩
      obtain ⟨_, q⟩ := h2 h
      exact ⟨g1.1, by omega, q⟩
    · rw [if_neg (by simpa using g1)]
      exact hno _ rfl
  · rw [if_neg (by simpa using g0)]
    exact hno _ rfl
theorem Abs_f (k : Nat) (x : Int) : sat_Abs.f (k + 1) x = some (if clip x < 0 then -clip x else clip x) := by
  have h := clip_bd x
  unfold sat_Abs.f sat_Neg.f
  rw [Clip_f]
  simp only [Option.bind_some]
  rw [wrap_id (by omega) (by omega)]
  by_cases g : x < 0
  · rw [if_pos g]
    have : clip x < 0 := by unfold clip; repeat' split <;> omega
    rw [if_pos this]
  · rw [if_neg g]
    have : ¬ clip x < 0 := by unfold clip; repeat' split <;> omega
    rw [if_neg this]
theorem Mul_f (k : Nat) (x c : Int) (hx0 : -2305843009213693952 ≤ x) (hx1 : x ≤ 2305843009213693952) (hc0 : 0 ≤ c) (hc1 : c ≤ 2305843009213693952) (h0 : -2305843009213693952 ≤ c * x) (h1 : c * x ≤ 2305843009213693952) : sat_Mul.f (k + 2) x c = some (c * x) := by
  unfold sat_Mul.f
  rw [Abs_f (k + 1), Abs_f (k + 1), clip_id hx0 hx1, clip_id (by omega) hc1, if_neg (show ¬ c < 0 by omega)]
  simp only [Option.bind_some]
  have ec : decide (c < 0) = false := decide_eq_false (by omega)
  by_cases g : x < 0
  · have ex : decide (x < 0) = true := decide_eq_true g
    rw [if_pos g, if_neg (by omega)]
    have hd : c ≤ 2305843009213693952 / (-x) := (Int.le_ediv_iff_mul_le (by omega)).2 (by rw [Int.mul_neg]; omega)
    have hd2 : 2305843009213693952 / (-x) ≤ 2305843009213693952 := Int.ediv_le_self _ (by omega)
    have hm : -x * c = -(c * x) := by rw [Int.neg_mul, Int.mul_comm]
    rw [wrap_id (x := 2305843009213693952 / (-x)) (by omega) (by omega), decide_eq_true hd, sat_Mul.j0, if_pos rfl, ex, ec, if_pos (by decide), hm, wrap_id (x := -(c * x)) (by omega) (by omega), Int.neg_neg, wrap_id (by omega) (by omega)]
  · have ex : decide (x < 0) = false := decide_eq_false g
    rw [if_neg g]
    have hm : x * c = c * x := Int.mul_comm _ _
    by_cases hz : x = 0
    · subst hz
      rw [if_pos rfl, sat_Mul.j0, if_pos rfl, ec, if_neg (by simp), hm, wrap_id (by omega) (by omega)]
    · rw [if_neg hz]
      have hd : c ≤ 2305843009213693952 / x := (Int.le_ediv_iff_mul_le (by omega)).2 h1
      have hd2 : 2305843009213693952 / x ≤ 2305843009213693952 := Int.ediv_le_self _ (by omega)
      rw [wrap_id (x := 2305843009213693952 / x) (by omega) (by omega), decide_eq_true hd, sat_Mul.j0, if_pos rfl, ex, ec, if_neg (by simp), hm, wrap_id (by omega) (by omega)]
theorem Neg_f (k : Nat) (x : Int) : sat_Neg.f (k + 1) x = some (-clip x) := by
  have h := clip_bd x
  unfold sat_Neg.f
  rw [Clip_f]
  simp only [Option.bind_some]
  rw [wrap_id (by omega) (by omega)]
theorem Add3_f (k : Nat) (a b c : Int) : sat_Add.f (k + 5) [a, b, c] = some (clip (clip (clip a + clip b) + clip c)) := by
  have h1 := clip_bd a
  have h2 := clip_bd b
  have h3 := clip_bd c
  have h4 := clip_bd (clip a + clip b)
  unfold sat_Add.f
  rw [sat_Add.l0, if_pos (by first | (simp; done) | (simp; omega)), if_pos (by decide), if_pos (by first | (simp; done) | (simp; omega)), show rd [a, b, c] 0 = a from rfl, Clip_f (k + 3)]
  simp only [Option.bind_some]
  rw [wrap_id (x := 0 + clip a) (by omega) (by omega), Int.zero_add, Clip_f (k + 3)]
  simp only [Option.bind_some]
  rw [clip_clip, show wrap64 (0 + 1) = 1 from wrap_id (by decide) (by decide), sat_Add.l0, if_pos (by first | (simp; done) | (simp; omega)), if_pos (by decide), if_pos (by first | (simp; done) | (simp; omega)), show rd [a, b, c] 1 = b from rfl, Clip_f (k + 2)]
  simp only [Option.bind_some]
  rw [wrap_id (x := clip a + clip b) (by omega) (by omega), Clip_f (k + 2)]
  simp only [Option.bind_some]
  rw [show wrap64 (1 + 1) = 2 from wrap_id (by decide) (by decide), sat_Add.l0, if_pos (by simp), if_pos (by decide), if_pos (by simp), show rd [a, b, c] 2 = c from rfl, Clip_f (k + 1)]
  simp only [Option.bind_some]
  rw [wrap_id (x := clip (clip a + clip b) + clip c) (by omega) (by omega), Clip_f (k + 1)]
  simp only [Option.bind_some]
  rw [show wrap64 (2 + 1) = 3 from wrap_id (by decide) (by decide), sat_Add.l0, if_neg (by simp)]
theorem Way_f (b0 F b2 b3 b4 b5 b6 b7 b8 b9 b10 b11 s0 s1 age : Int) (k : Nat) (hB : Bnd F b3 b4 b5 b6 b7) (ha0 : -4398046511104 ≤ age) (ha1 : age ≤ 4398046511104) (h0 : -1152921504606846976 ≤ s0) (h1 : s0 ≤ 1152921504606846976) (h2 : -1152921504606846976 ≤ s1) (h3 : s1 ≤ 1152921504606846976) :
    carry_Way.f (k + 6) b0 F b2 b3 b4 b5 b6 b7 b8 b9 b10 b11 s0 s1 age = some (s0 + (b5 - b6 + age - b4), s1 + (b5 + age + b4)) := by
  unfold Bnd at hB
  unfold carry_Way.f span_Shift.f
  rw [Sub_f (k + 5), Neg_f (k + 5)]
  simp only [bind_some_]
  rw [Add3_f (k + 1), Add3_f (k + 1)]
  simp only [bind_some_]
  rw [clip_id (x := b5) (by omega) (by omega), clip_id (x := b6) (by omega) (by omega), clip_id (x := b4) (by omega) (by omega), clip_id (x := age) (by omega) (by omega), clip_id (x := b5 - b6) (by omega) (by omega), clip_id (x := b5 - b6) (by omega) (by omega), clip_id (x := -b4) (by omega) (by omega), clip_id (x := b5 - b6 + age) (by omega) (by omega), clip_id (x := b5 - b6 + age + -b4) (by omega) (by omega), clip_id (x := b5 + age) (by omega) (by omega), clip_id (x := b5 + age + b4) (by omega) (by omega)]
  rw [Add2_f (k + 2), Add2_f (k + 2)]
  simp only [bind_some_]
  rw [clip_id (x := s0) (by omega) (by omega), clip_id (x := s1) (by omega) (by omega), clip_id (x := b5 - b6 + age + -b4) (by omega) (by omega), clip_id (x := b5 + age + b4) (by omega) (by omega), clip_id (by omega) (by omega), clip_id (by omega) (by omega)]
  rfl
theorem Hop_f (b0 F b2 b3 b4 b5 b6 b7 b8 b9 b10 b11 : Int) (k : Nat) (hB : Bnd F b3 b4 b5 b6 b7) : limit_Hop.f (k + 4) b0 F b2 b3 b4 b5 b6 b7 b8 b9 b10 b11 = some (b6 + b4 * 2) := by
  unfold Bnd at hB
  unfold limit_Hop.f
  rw [Mul_f (k + 2) 2 b4 (by omega) (by omega) (by omega) (by omega) (by omega) (by omega)]
  simp only [bind_some_]
  rw [Add2_f k, clip_id (x := b6) (by omega) (by omega), clip_id (x := b4 * 2) (by omega) (by omega), clip_id (by omega) (by omega)]
  rfl
end Go.Proofs.Ytaiggeogiolbnaa.H
