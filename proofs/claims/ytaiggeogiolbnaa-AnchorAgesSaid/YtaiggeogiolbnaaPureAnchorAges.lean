/- AnchorAges: the pure statement. -/
import Derived.Test.YtaiggeogiolbnaaRa
import Derived.Test.YtaiggeogiolbnaaR12
namespace Go.Proofs.Ytaiggeogiolbnaa.Pure
open Go.RowKit Go.Proofs.Ytaiggeogiolbnaa.R Go.Proofs.YtaiggeogiolbnaaW.PrintWords Go.Proofs.YtaiggeogiolbnaaW.PrintLast Go.Proofs.YtaiggeogiolbnaaPl
open Go.Proofs.Ytaiggeogiolbnaa.So (srt least has srt_length)
theorem Ages_l0 (b0 F b2 b3 b4 b5 b6 b7 b8 b9 b10 b11 : Int) (l : List Int) (lo hi : Int) (hl : l.length ≤ 256) (hF : 0 ≤ F) (hF2 : 2 * F + 1 ≤ (l.length : Int)) (hlo : 0 ≤ lo) (hhi : hi ≤ 536870912) : ∀ (d k : Nat) (i x : Int), 0 ≤ i → i ≤ l.length → (l.length : Int) - i = d → 0 ≤ x → x ≤ i →
    x + (l.drop i.toNat).countP (fun y => decide (y < lo ∨ y > hi)) = l.countP (fun y => decide (y < lo ∨ y > hi)) →
    R.clepsydralaw16_AnchorAges.l0 (k + 5 + d) l lo hi x l (l.length : Int) i b0 F b2 b3 b4 b5 b6 b7 b8 b9 b10 b11 = some true := by
  intro d
  induction d with
  | zero =>
    intro k i x h0 h1 hd x0 x1 hx
    rw [drop_end l i (by omega)] at hx
    simp only [List.countP_nil, Int.natCast_zero, Int.add_zero] at hx
    rw [Nat.add_zero, R.clepsydralaw16_AnchorAges.l0, if_neg (by omega)]
    by_cases g : x > F
    · rw [if_pos g]
    · rw [if_neg g]
      have a := least_ge (f := F) (l := l) hF (by omega) lo (by
        have := cnt_mono (l := l) (p := fun y => decide (y < lo)) (q := fun y => decide (y < lo ∨ y > hi)) (fun x _ h => by simp only [decide_eq_true_eq] at *; omega)
        omega)
      have b := least_le (f := F) (l := l) hF hF2 hi (by
        have := cnt_mono (l := l) (p := fun y => decide (y > hi)) (q := fun y => decide (y < lo ∨ y > hi)) (fun x _ h => by simp only [decide_eq_true_eq] at *; omega)
        omega)
      rw [Held_f k b0 F b2 b3 b4 b5 b6 b7 b8 b9 b10 b11 l (by omega) (decide_eq_true (by omega)) (by omega) (by omega)]
      simp only [Option.bind_some, if_true]
      rw [wrap_id (by omega) (by omega), wrap_id (by omega) (by omega), if_pos (by omega), decide_eq_true (by omega)]
  | succ d ih =>
    intro k i x h0 h1 hd x0 x1 hx
    rw [drop_at 0 l i h0 (by omega), List.countP_cons] at hx
    change _ + ((List.countP _ _ + (if decide (rd l i < lo ∨ rd l i > hi) = true then 1 else 0) : Nat) : Int) = _ at hx
    rw [← Nat.add_assoc, R.clepsydralaw16_AnchorAges.l0, if_pos (by omega), if_pos h0, if_pos (by omega)]
    generalize rd l i = y at *
    rw [wrap_id (x := x + 1) (by omega) (by omega), wrap_id (x := i + 1) (by omega) (by omega)]
    by_cases g1 : y < lo
    · rw [if_pos g1]
      rw [if_pos (decide_eq_true (.inl g1))] at hx
      exact ih k (i + 1) (x + 1) (by omega) (by omega) (by omega) (by omega) (by omega) (by omega)
    · rw [if_neg g1]
      by_cases g2 : y > hi
      · rw [if_pos g2]
        rw [if_pos (decide_eq_true (.inr g2))] at hx
        exact ih k (i + 1) (x + 1) (by omega) (by omega) (by omega) (by omega) (by omega) (by omega)
      · rw [if_neg g2]
        rw [if_neg (by simp; omega)] at hx
        exact ih k (i + 1) x (by omega) (by omega) (by omega) (by omega) (by omega) (by omega)
theorem AnchorAges : ∀ (a0_0 : Int) (a0_1 : Int) (a0_2 : Int) (a0_3 : Int) (a0_4 : Int) (a0_5 : Int) (a0_6 : Int) (a0_7 : Int) (a0_8 : Int) (a0_9 : Int) (a0_10 : Int) (a0_11 : Int) (l1 : List (Int)) (a2 : Int) (a3 : Int), (Lit.int .i64 a0_0).wf = true → (Lit.int .i64 a0_1).wf = true → (Lit.int .i64 a0_2).wf = true → (Lit.int .i64 a0_3).wf = true → (Lit.int .i64 a0_4).wf = true → (Lit.int .i64 a0_5).wf = true → (Lit.int .i64 a0_6).wf = true → (Lit.int .i64 a0_7).wf = true → (Lit.int .i64 a0_8).wf = true → (Lit.int .i64 a0_9).wf = true → (Lit.int .i64 a0_10).wf = true → (Lit.int .i64 a0_11).wf = true → (l1.length ≤ maxLen ∧ l1.length * 8 ≤ 140737488351232 ∧ ∀ x0_ ∈ l1, (Lit.int .i64 x0_).wf = true) → (Lit.int .i64 a2).wf = true → (Lit.int .i64 a3).wf = true → ∃ k, Go.Proofs.Ytaiggeogiolbnaa.R.clepsydralaw16_AnchorAges.f k a0_0 a0_1 a0_2 a0_3 a0_4 a0_5 a0_6 a0_7 a0_8 a0_9 a0_10 a0_11 l1 a2 a3 = some true := by
  intro b0 F b2 b3 b4 b5 b6 b7 b8 b9 b10 b11 l lo hi _ _ _ _ _ _ _ _ _ _ _ _ _ _ _
  refine ⟨15 + 5 + l.length + 1, ?_⟩
  unfold R.clepsydralaw16_AnchorAges.f
  have hj : R.clepsydralaw16_AnchorAges.j0 (15 + 5 + l.length + 1) l lo hi true b0 F b2 b3 b4 b5 b6 b7 b8 b9 b10 b11 = some true := by rw [R.clepsydralaw16_AnchorAges.j0, if_pos rfl]
  rw [alive16_f _ (by omega), bind_true, if_pos rfl]
  by_cases hl : (l.length : Int) > 256
  · rw [if_pos hl, hj]
  rw [if_neg hl]
  by_cases h0 : F < 0
  · rw [if_pos h0, hj]
  rw [if_neg h0]
  by_cases h1 : (l.length : Int) ≤ F
  · rw [if_pos h1, hj]
  rw [if_neg h1, wrap_id (by omega) (by omega)]
  by_cases h2 : (l.length : Int) - F ≤ F
  · rw [if_pos h2, hj]
  rw [if_neg h2]
  by_cases h3 : lo < 0
  · rw [if_pos h3, hj]
  rw [if_neg h3]
  by_cases h4 : hi > 536870912
  · rw [decide_eq_true h4, hj]
  rw [decide_eq_false h4, R.clepsydralaw16_AnchorAges.j0, if_neg (by simp)]
  exact Ages_l0 b0 F b2 b3 b4 b5 b6 b7 b8 b9 b10 b11 l lo hi (by omega) (by omega) (by omega) (by omega) (by omega) l.length 15 0 0 (by omega) (by omega) (by omega) (by omega) (by omega) (by simp)
end Go.Proofs.Ytaiggeogiolbnaa.Pure
