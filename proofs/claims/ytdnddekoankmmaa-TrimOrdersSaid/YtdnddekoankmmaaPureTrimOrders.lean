/- TrimOrders: the pure statement. -/
import Derived.Test.YtdnddekoankmmaaTb
import Derived.Test.YtdnddekoankmmaaQ14
namespace Go.Proofs.Ytdnddekoankmmaa.Pure
open Go.RowKit Go.Proofs.Ytdnddekoankmmaa.Q Go.Proofs.YtdnddekoankmmaaW.PrintWords Go.Proofs.YtdnddekoankmmaaW.PrintLast Go.Proofs.YtdnddekoankmmaaPl
theorem rev_step {α : Type} (d : α) (l : List α) (j : Int) (h0 : 0 ≤ j) (h1 : j < (l.length : Int)) : (l.drop j.toNat).reverse = (l.drop (j + 1).toNat).reverse ++ [l.getD j.toNat d] := by
  rw [drop_at d l j h0 h1, List.reverse_cons]
theorem Orders_l1 (f : Int) (l : List Int) (s : List S38) (hl : l.length ≤ 256) (hs : s.length ≤ 256) (l' : List Int) (hp : l'.Perm l) : ∀ (d k : Nat) (j : Int) (y : List S38), -1 ≤ j → j < s.length → j + 1 = d → y = (s.drop (j + 1).toNat).reverse →
    Q.clepsydralaw07_TrimOrders.l1 (k + 301 + d) f l s l' y j = some true := by
  intro d
  induction d with
  | zero =>
    intro k j y h0 h1 hd hy
    have hj : j + 1 = 0 := by omega
    rw [hj] at hy
    have hp2 : y.Perm s := by rw [hy]; exact List.reverse_perm s
    have hl' : l'.length = l.length := hp.length_eq
    have hy' : y.length = s.length := hp2.length_eq
    rw [Nat.add_zero, Q.clepsydralaw07_TrimOrders.l1, if_neg (by omega), Middle_f (k + 298) f l (by omega), Middle_f (k + 298) f l' (by omega), Least_f f l (by omega), Least_f f l' (by omega), Fuse_f f s (by omega) (k + 300) (by omega), Fuse_f f y (by omega) (k + 300) (by omega)]
    rw [middle_perm hp, least_perm hp, has_perm hp, fuse_perm hp2]
    simp
  | succ d ih =>
    intro k j y h0 h1 hd hy
    have hlen : y.length ≤ 256 := by rw [hy]; simp; omega
    rw [← Nat.add_assoc, Q.clepsydralaw07_TrimOrders.l1, if_pos (by omega), if_pos (by omega), if_pos h1, if_pos (by omega), wrap_id (by omega) (by omega)]
    refine ih k (j - 1) _ (by omega) (by omega) (by omega) ?_
    rw [show j - 1 + 1 = j by omega, rev_step z38 s j (by omega) h1, hy]
    rfl
theorem Orders_l0 (f : Int) (l : List Int) (s : List S38) (hl : l.length ≤ 256) (hs : s.length ≤ 256) : ∀ (d k : Nat) (j : Int) (y : List Int), -1 ≤ j → j < l.length → j + 1 = d → y = (l.drop (j + 1).toNat).reverse →
    Q.clepsydralaw07_TrimOrders.l0 (k + 301 + s.length + 1 + d) f l s y j = some true := by
  intro d
  induction d with
  | zero =>
    intro k j y h0 h1 hd hy
    have hj : j + 1 = 0 := by omega
    rw [hj] at hy
    rw [Nat.add_zero, Q.clepsydralaw07_TrimOrders.l0, if_neg (by omega), wrap_id (by omega) (by omega)]
    refine Orders_l1 f l s hl hs y (by rw [hy]; exact List.reverse_perm l) s.length k ((s.length : Int) - 1) [] (by omega) (by omega) (by omega) ?_
    rw [show (s.length : Int) - 1 + 1 = (s.length : Int) by omega, drop_end s _ (by omega)]
    rfl
  | succ d ih =>
    intro k j y h0 h1 hd hy
    have hlen : y.length ≤ 256 := by rw [hy]; simp; omega
    rw [← Nat.add_assoc, Q.clepsydralaw07_TrimOrders.l0, if_pos (by omega), if_pos (by omega), if_pos h1, if_pos (by omega), wrap_id (by omega) (by omega)]
    refine ih k (j - 1) _ (by omega) (by omega) (by omega) ?_
    rw [show j - 1 + 1 = j by omega, rev_step 0 l j (by omega) h1, hy]
    rfl
theorem TrimOrders : ∀ (a0 : Int) (l1 : List (Int)) (l2 : List (Go.Proofs.Ytdnddekoankmmaa.Q.S38)), (Lit.int .i64 a0).wf = true → (l1.length ≤ maxLen ∧ l1.length * 8 ≤ 140737488351232 ∧ ∀ x0_ ∈ l1, (Lit.int .i64 x0_).wf = true) → (l2.length ≤ maxLen ∧ l2.length * 16 ≤ 140737488351232 ∧ ∀ x0_ ∈ l2, ((Lit.int .i64 x0_.f0).wf = true ∧ (Lit.int .i64 x0_.f1).wf = true)) → ∃ k, Go.Proofs.Ytdnddekoankmmaa.Q.clepsydralaw07_TrimOrders.f k a0 l1 l2 = some true := by
  intro f l s _ _ _
  refine ⟨0 + 301 + s.length + 1 + l.length + 1, ?_⟩
  unfold Q.clepsydralaw07_TrimOrders.f
  rw [alive07_f _ (by omega)]
  simp only [Option.bind_some, if_true]
  by_cases hl : (l.length : Int) > 256
  · rw [if_pos hl, Q.clepsydralaw07_TrimOrders.j0, if_pos rfl]
  rw [if_neg hl]
  by_cases hs : (s.length : Int) > 256
  · rw [decide_eq_true hs, Q.clepsydralaw07_TrimOrders.j0, if_pos rfl]
  rw [decide_eq_false hs, Q.clepsydralaw07_TrimOrders.j0, if_neg (by simp), wrap_id (by omega) (by omega)]
  refine Orders_l0 f l s (by omega) (by omega) l.length 0 ((l.length : Int) - 1) [] (by omega) (by omega) (by omega) ?_
  rw [show (l.length : Int) - 1 + 1 = (l.length : Int) by omega, drop_end l _ (by omega)]
  rfl
end Go.Proofs.Ytdnddekoankmmaa.Pure
