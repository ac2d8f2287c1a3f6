/- AnchorMoves: the pure statement. -/
import Derived.Test.YtaiggeogiolbnaaRf
import Derived.Test.YtaiggeogiolbnaaR17
namespace Go.Proofs.Ytaiggeogiolbnaa.Pure
open Go.RowKit Go.Proofs.Ytaiggeogiolbnaa.R Go.Proofs.YtaiggeogiolbnaaW.PrintWords Go.Proofs.YtaiggeogiolbnaaW.PrintLast Go.Proofs.YtaiggeogiolbnaaPl
theorem Moves_l0 (b0 F b2 b3 b4 b5 b6 b7 b8 b9 b10 b11 : Int) (l : List S33) (c : Int) (hl : l.length ≤ 256) (hc : -288230376151711744 ≤ c) (hc2 : c ≤ 288230376151711744) : ∀ (d k : Nat) (i : Int) (x : List S33), 0 ≤ i → i ≤ l.length → (l.length : Int) - i = d → x = (l.take i.toNat).map (mv c) → (∀ s, s ∈ l.take i.toNat → okS s) →
    R.clepsydralaw16_AnchorMoves.l0 (k + 300 + d) l c x l (l.length : Int) i b0 F b2 b3 b4 b5 b6 b7 b8 b9 b10 b11 = some true := by
  intro d
  induction d with
  | zero =>
    intro k i x h0 h1 hd hx hok
    rw [List.take_of_length_le (by omega)] at hx hok
    have hxl : x.length = l.length := by rw [hx, List.length_map]
    rw [Nat.add_zero, R.clepsydralaw16_AnchorMoves.l0, if_neg (by omega), AFuse_f b0 F b2 b3 b4 b5 b6 b7 b8 b9 b10 b11 l (by omega) _ (by omega), AFuse_f b0 F b2 b3 b4 b5 b6 b7 b8 b9 b10 b11 x (by omega) _ (by omega), hx]
    obtain ⟨e1, e2⟩ := fuse_shift c F l hc hc2 hok
    simp only [Option.bind_some]
    rw [if_pos (by rw [e1]; exact beq_self_eq_true _)]
    by_cases g : (fuse F l).2.2 = true
    · obtain ⟨q1, q2, q3, q4, q5, q6⟩ := e2 g
      rw [if_pos g, wrap_id (by omega) (by omega), if_pos q1, wrap_id (by omega) (by omega), q2, beq_self_eq_true]
    · rw [if_neg g]
  | succ d ih =>
    intro k i x h0 h1 hd hx hok
    have ht := take_at z33 l i h0 (by omega)
    change _ = _ ++ [rd_T33 l i] at ht
    have hxl : x.length ≤ 256 := by rw [hx]; simp; omega
    rw [← Nat.add_assoc, R.clepsydralaw16_AnchorMoves.l0, if_pos (by omega), if_pos h0, if_pos (by omega)]
    generalize rd_T33 l i = m at *
    by_cases g1 : m.f0 > 288230376151711744
    · rw [if_pos g1]
    rw [if_neg g1]
    by_cases g2 : m.f0 < -288230376151711744
    · rw [if_pos g2]
    rw [if_neg g2]
    by_cases g3 : m.f1 > 288230376151711744
    · rw [if_pos g3]
    rw [if_neg g3]
    by_cases g4 : m.f1 < -288230376151711744
    · rw [if_pos g4]
    rw [if_neg g4, if_pos (by omega), wrap_id (x := m.f0 + c) (by omega) (by omega), wrap_id (x := m.f1 + c) (by omega) (by omega), wrap_id (x := i + 1) (by omega) (by omega)]
    refine ih k (i + 1) _ (by omega) (by omega) (by omega) (by rw [ht, List.map_append, ← hx]; rfl) (fun s hs => ?_)
    rw [ht] at hs
    rcases List.mem_append.1 hs with hs | hs
    · exact hok s hs
    · rw [List.mem_singleton.1 hs]
      exact ⟨by omega, by omega, by omega, by omega⟩
theorem AnchorMoves : ∀ (a0_0 : Int) (a0_1 : Int) (a0_2 : Int) (a0_3 : Int) (a0_4 : Int) (a0_5 : Int) (a0_6 : Int) (a0_7 : Int) (a0_8 : Int) (a0_9 : Int) (a0_10 : Int) (a0_11 : Int) (l1 : List (Go.Proofs.Ytaiggeogiolbnaa.R.S33)) (a2 : Int), (Lit.int .i64 a0_0).wf = true → (Lit.int .i64 a0_1).wf = true → (Lit.int .i64 a0_2).wf = true → (Lit.int .i64 a0_3).wf = true → (Lit.int .i64 a0_4).wf = true → (Lit.int .i64 a0_5).wf = true → (Lit.int .i64 a0_6).wf = true → (Lit.int .i64 a0_7).wf = true → (Lit.int .i64 a0_8).wf = true → (Lit.int .i64 a0_9).wf = true → (Lit.int .i64 a0_10).wf = true → (Lit.int .i64 a0_11).wf = true → (l1.length ≤ maxLen ∧ l1.length * 16 ≤ 140737488351232 ∧ ∀ x0_ ∈ l1, ((Lit.int .i64 x0_.f0).wf = true ∧ (Lit.int .i64 x0_.f1).wf = true)) → (Lit.int .i64 a2).wf = true → ∃ k, Go.Proofs.Ytaiggeogiolbnaa.R.clepsydralaw16_AnchorMoves.f k a0_0 a0_1 a0_2 a0_3 a0_4 a0_5 a0_6 a0_7 a0_8 a0_9 a0_10 a0_11 l1 a2 = some true := by
  intro b0 F b2 b3 b4 b5 b6 b7 b8 b9 b10 b11 l c _ _ _ _ _ _ _ _ _ _ _ _ _ _
  refine ⟨0 + 300 + l.length + 1, ?_⟩
  unfold R.clepsydralaw16_AnchorMoves.f
  have hj : R.clepsydralaw16_AnchorMoves.j0 (0 + 300 + l.length + 1) l c true b0 F b2 b3 b4 b5 b6 b7 b8 b9 b10 b11 = some true := by rw [R.clepsydralaw16_AnchorMoves.j0, if_pos rfl]
  rw [alive16_f _ (by omega), bind_true, if_pos rfl]
  by_cases hl : (l.length : Int) > 256
  · rw [if_pos hl, hj]
  rw [if_neg hl]
  by_cases h3 : c > 288230376151711744
  · rw [if_pos h3, hj]
  rw [if_neg h3]
  by_cases h4 : c < -288230376151711744
  · rw [decide_eq_true h4, hj]
  rw [decide_eq_false h4, R.clepsydralaw16_AnchorMoves.j0, if_neg (by simp)]
  exact Moves_l0 b0 F b2 b3 b4 b5 b6 b7 b8 b9 b10 b11 l c (by omega) (by omega) (by omega) l.length 0 0 [] (by omega) (by omega) (by omega) rfl (fun s hs => by simp at hs)
end Go.Proofs.Ytaiggeogiolbnaa.Pure
