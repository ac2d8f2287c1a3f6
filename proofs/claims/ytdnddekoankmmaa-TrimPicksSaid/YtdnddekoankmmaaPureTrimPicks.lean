/- TrimPicks: the pure statement. -/
import Derived.Test.YtdnddekoankmmaaTp
namespace Go.Proofs.Ytdnddekoankmmaa.Pure
open Go.RowKit Go.Proofs.Ytdnddekoankmmaa.Q Go.Proofs.YtdnddekoankmmaaW.PrintWords Go.Proofs.YtdnddekoankmmaaW.PrintLast Go.Proofs.YtdnddekoankmmaaPl
open Go.Proofs.Ytdnddekoankmmaa.So (srt least has srt_length)
theorem TrimPicks : ∀ (a0 : Int) (l1 : List (Int)), (Lit.int .i64 a0).wf = true → (l1.length ≤ maxLen ∧ l1.length * 8 ≤ 140737488351232 ∧ ∀ x0_ ∈ l1, (Lit.int .i64 x0_).wf = true) → ∃ k, Go.Proofs.Ytdnddekoankmmaa.Q.clepsydralaw07_TrimPicks.f k a0 l1 = some true := by
  intro f l _ _
  refine ⟨70000, ?_⟩
  unfold Q.clepsydralaw07_TrimPicks.f
  rw [Least_f 1 [5, 3, 9] (by decide)]
  simp only [Option.bind_some]
  rw [show least 1 [5, 3, 9] = 5 from least_is (by decide) (by decide) (by decide) (by decide), show has 1 [5, 3, 9] = true by decide +kernel, if_pos rfl]
  rw [Q.clepsydralaw07_TrimPicks.j0, if_neg (by simp)]
  by_cases hl : (l.length : Int) > 256
  · rw [if_pos hl]
  · have hb : l.length * (l.length + 2) ≤ 256 * 258 := Nat.mul_le_mul (by omega) (by omega)
    rw [if_neg hl, Least_f f l (by omega), Most_f f l (by omega), Middle_f 69997 f l (by omega), refLeast_f f l (by omega) _ (by omega), refMost_f f l (by omega) _ (by omega), refMiddle_f _ f l (by omega) (by omega)]
    simp
end Go.Proofs.Ytdnddekoankmmaa.Pure
