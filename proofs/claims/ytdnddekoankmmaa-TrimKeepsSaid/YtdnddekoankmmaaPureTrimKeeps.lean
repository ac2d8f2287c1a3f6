/- TrimKeeps: the pure statement. -/
import Derived.Test.YtdnddekoankmmaaJt
import Derived.Test.YtdnddekoankmmaaJ14
namespace Go.Proofs.Ytdnddekoankmmaa.Pure
open Go.RowKit Go.Proofs.Ytdnddekoankmmaa.J Go.Proofs.YtdnddekoankmmaaW.PrintWords Go.Proofs.YtdnddekoankmmaaW.PrintLast Go.Proofs.YtdnddekoankmmaaPl
theorem Keeps_l0 (l : List Int) (hl : l.length ≤ 4096) : ∀ (d k : Nat) (i : Int), 0 ≤ i → i ≤ l.length → (l.length : Int) - i = d → clepsydralaw07_TrimKeeps.l0 (k + 1 + d) l l (l.length : Int) i = some true := by
  intro d
  induction d with
  | zero =>
    intro k i h0 h1 hd
    rw [Nat.add_zero, clepsydralaw07_TrimKeeps.l0, if_neg (by omega)]
  | succ d ih =>
    intro k i h0 h1 hd
    rw [← Nat.add_assoc, clepsydralaw07_TrimKeeps.l0, if_pos (by omega), if_pos h0, if_pos (by omega), if_pos (by omega), if_pos rfl, wrap_id (by omega) (by omega)]
    exact ih k (i + 1) (by omega) (by omega) (by omega)
theorem TrimKeeps : ∀ (a0 : Int) (l1 : List (Int)), (Lit.int .i64 a0).wf = true → (l1.length ≤ maxLen ∧ l1.length * 8 ≤ 140737488351232 ∧ ∀ x0_ ∈ l1, (Lit.int .i64 x0_).wf = true) → ∃ k, Go.Proofs.Ytdnddekoankmmaa.J.clepsydralaw07_TrimKeeps.f k a0 l1 = some true := by
  intro f l _ hl
  refine ⟨301, ?_⟩
  unfold clepsydralaw07_TrimKeeps.f
  rw [alive07_f _ (by omega)]
  simp only [Option.bind_some]
  rw [if_pos trivial]
  by_cases h1 : (l.length : Int) > 256
  · rw [if_pos h1]
  · rw [if_neg h1, List.nil_append, if_pos (by simp; omega), Least_f f l (by omega), Middle_f 299 f l (by omega), trim_Agreed_int.f_is _ _ ⟨hl.2.1, hl.2.2⟩]
    simp only [Option.bind_some]
    obtain ⟨k, hk⟩ : ∃ k, 301 = k + 1 + l.length := ⟨300 - l.length, by omega⟩
    rw [hk]
    exact Keeps_l0 l (by omega) l.length k 0 (by omega) (by omega) (by omega)
end Go.Proofs.Ytdnddekoankmmaa.Pure
