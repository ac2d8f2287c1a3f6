/- TrimFuses: the pure statement. -/
import Derived.Test.YtdnddekoankmmaaTf
namespace Go.Proofs.Ytdnddekoankmmaa.Pure
open Go.RowKit Go.Proofs.Ytdnddekoankmmaa.Q Go.Proofs.YtdnddekoankmmaaW.PrintWords Go.Proofs.YtdnddekoankmmaaW.PrintLast Go.Proofs.YtdnddekoankmmaaPl
theorem TrimFuses : ∀ (a0 : Int) (l1 : List (Go.Proofs.Ytdnddekoankmmaa.Q.S38)), (Lit.int .i64 a0).wf = true → (l1.length ≤ maxLen ∧ l1.length * 16 ≤ 140737488351232 ∧ ∀ x0_ ∈ l1, ((Lit.int .i64 x0_.f0).wf = true ∧ (Lit.int .i64 x0_.f1).wf = true)) → ∃ k, Go.Proofs.Ytdnddekoankmmaa.Q.clepsydralaw07_TrimFuses.f k a0 l1 = some true := by
  intro f l _ _
  refine ⟨80000, ?_⟩
  unfold Q.clepsydralaw07_TrimFuses.f
  rw [alive07_f 80000 (by omega)]
  simp only [Option.bind_some, if_true]
  by_cases hl : (l.length : Int) > 256
  · rw [if_pos hl]
  · rw [if_neg hl, Fuse_f f l (by omega) _ (by omega), refFuse_f f l (by omega) _ (by omega)]
    simp
end Go.Proofs.Ytdnddekoankmmaa.Pure
