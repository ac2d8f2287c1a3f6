/- TrimBetween: the pure statement. -/
import Derived.Test.YtdnddekoankmmaaTb
import Derived.Test.YtdnddekoankmmaaQ14
namespace Go.Proofs.Ytdnddekoankmmaa.Pure
open Go.RowKit Go.Proofs.Ytdnddekoankmmaa.Q Go.Proofs.YtdnddekoankmmaaW.PrintWords Go.Proofs.YtdnddekoankmmaaW.PrintLast Go.Proofs.YtdnddekoankmmaaPl
theorem Between_l0 (f : Int) (l : List Int) (lo hi : Int) (hl : l.length ≤ 256) (hf : ¬ few f (l.length : Int) = true) (hlo : -2305843009213693952 ≤ lo) (hhi : hi ≤ 2305843009213693952) : ∀ (d k : Nat) (i x : Int), 0 ≤ i → i ≤ l.length → (l.length : Int) - i = d → 0 ≤ x → x ≤ i →
    x + (l.drop i.toNat).countP (fun y => decide (y < lo ∨ y > hi)) = l.countP (fun y => decide (y < lo ∨ y > hi)) →
    Q.clepsydralaw07_TrimBetween.l0 (k + 3 + d) f l lo hi x l (l.length : Int) i = some true := by
  intro d
  induction d with
  | zero =>
    intro k i x h0 h1 hd x0 x1 hx
    rw [drop_end l i (by omega)] at hx
    simp only [List.countP_nil, Int.natCast_zero, Int.add_zero] at hx
    rw [Nat.add_zero, Q.clepsydralaw07_TrimBetween.l0, if_neg (by omega)]
    by_cases g : x > f
    · rw [if_pos g]
    · rw [if_neg g, Middle_f k f l (by omega)]
      obtain ⟨e1, e2, e3⟩ := middle_between f l lo hi hf (by omega) hlo hhi
      simp only [Option.bind_some]
      rw [if_pos e1, if_pos e2, decide_eq_true e3]
  | succ d ih =>
    intro k i x h0 h1 hd x0 x1 hx
    rw [drop_at 0 l i h0 (by omega), List.countP_cons] at hx
    change _ + ((List.countP _ _ + (if decide (rd l i < lo ∨ rd l i > hi) = true then 1 else 0) : Nat) : Int) = _ at hx
    rw [← Nat.add_assoc, Q.clepsydralaw07_TrimBetween.l0, if_pos (by omega), if_pos h0, if_pos (by omega)]
    generalize rd l i = y at *
    rw [wrap_id (x := x + 1) (by omega) (by omega), wrap_id (x := i + 1) (by omega) (by omega)]
    by_cases g1 : y < lo
    · rw [if_pos g1]
      rw [if_pos (decide_eq_true (.inl g1))] at hx
      exact ih k (i + 1) (x + 1) (by omega) (by omega) (by omega) (by omega) (by omega) (by omega)
    · rw [if_neg g1]
      by_cases g2 : y > hi
      · rw [if_pos g2]
        rw [if_pos (decide_eq_true (.inr g2))] at hx
        exact ih k (i + 1) (x + 1) (by omega) (by omega) (by omega) (by omega) (by omega) (by omega)
      · rw [if_neg g2]
        rw [if_neg (by simp; omega)] at hx
        exact ih k (i + 1) x (by omega) (by omega) (by omega) (by omega) (by omega) (by omega)
theorem TrimBetween : ∀ (a0 : Int) (l1 : List (Int)) (a2 : Int) (a3 : Int), (Lit.int .i64 a0).wf = true → (l1.length ≤ maxLen ∧ l1.length * 8 ≤ 140737488351232 ∧ ∀ x0_ ∈ l1, (Lit.int .i64 x0_).wf = true) → (Lit.int .i64 a2).wf = true → (Lit.int .i64 a3).wf = true → ∃ k, Go.Proofs.Ytdnddekoankmmaa.Q.clepsydralaw07_TrimBetween.f k a0 l1 a2 a3 = some true := by
  intro f l lo hi _ _ _ _
  refine ⟨l.length + 10, ?_⟩
  unfold Q.clepsydralaw07_TrimBetween.f
  have hj : Q.clepsydralaw07_TrimBetween.j0 (l.length + 10) f l lo hi true = some true := by rw [Q.clepsydralaw07_TrimBetween.j0, if_pos rfl]
  rw [alive07_f _ (by omega)]
  simp only [Option.bind_some, if_true]
  by_cases hl : (l.length : Int) > 256
  · rw [if_pos hl, hj]
  rw [if_neg hl]
  by_cases h0 : f < 0
  · rw [if_pos h0, hj]
  rw [if_neg h0]
  by_cases h1 : f > 256
  · rw [if_pos h1, hj]
  rw [if_neg h1, wrap_id (x := 2 * f) (by omega) (by omega), wrap_id (by omega) (by omega)]
  by_cases h2 : (l.length : Int) < 2 * f + 1
  · rw [if_pos h2, hj]
  rw [if_neg h2]
  by_cases h3 : lo < -2305843009213693952
  · rw [if_pos h3, hj]
  rw [if_neg h3]
  by_cases h4 : hi > 2305843009213693952
  · rw [decide_eq_true h4, hj]
  rw [decide_eq_false h4, Q.clepsydralaw07_TrimBetween.j0, if_neg (by simp), show l.length + 9 = 6 + 3 + l.length by omega]
  exact Between_l0 f l lo hi (by omega) (by unfold few; simp; omega) (by omega) (by omega) l.length 6 0 0 (by omega) (by omega) (by omega) (by omega) (by omega) (by simp)
end Go.Proofs.Ytdnddekoankmmaa.Pure
