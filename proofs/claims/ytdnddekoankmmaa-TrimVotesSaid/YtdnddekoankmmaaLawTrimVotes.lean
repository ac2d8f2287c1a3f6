/- The law TrimVotes, over all inputs: the row, out of the pure statement and the contract of the call. -/
import Derived.Test.YtdnddekoankmmaaRows
import Derived.Test.YtdnddekoankmmaaJ13
import Derived.Test.YtdnddekoankmmaaPureTrimVotes
import Derived.Test.YtdnddekoankmmaaRo
import Derived.WalkKit
import Derived.ProofKit
import Derived.OpenShut
import Derived.ShutString
import Derived.ChangeOld
import Derived.Below
import Derived.SizedLaws
namespace Go.Proofs.Ytdnddekoankmmaa.trimVotes
open Go.ChangeShapes Go.WideShapes Go.ChangeAt Go.RowKit Go.Proofs.YtdnddekoankmmaaW.PrintWords Go.Proofs.YtdnddekoankmmaaRo
open Go.ChangeMaps (open_string shut_string)
set_option linter.unusedVariables false
theorem own : ownKnob Try.prog.godebug = none := by kernel_rfl
theorem laidOut : laidOutB Try.prog = true := by kernel_rfl
theorem prm1 : Opn Try.prog (Kd.slice 3 (Kd.int .i64)) 22 (fun x => (x.length ≤ maxLen ∧ x.length * 8 ≤ 140737488351232 ∧ ∀ x0_ ∈ x, (Lit.int .i64 x0_).wf = true)) := by
  have h := (Opn.slice (B := 8) Try.underlying22 (by kernel_rfl) (by kernel_rfl) (Opn.int Try.underlying3 (by kernel_rfl)))
  exact h
theorem prm2 : Opn Try.prog (Kd.slice 4 Kd.bool) 46 (fun x => (x.length ≤ maxLen ∧ x.length * 1 ≤ 140737488351232 ∧ ∀ x0_ ∈ x, True)) := by
  have h := (Opn.slice (B := 1) Try.underlying46 (by kernel_rfl) (by kernel_rfl) (Opn.bool Try.underlying4 (by kernel_rfl)))
  exact h
set_option maxRecDepth 100000 in
set_option maxHeartbeats 1000000 in
theorem lifted (os : Os) (started : os.Started) (H : Type) (enc : TypeId × Value → H) :
    ReturnsInHanded {} Try.checked os 12 .any (Rows.trimVotesSpec.pre6 enc Try.prog Try.f12 Rows.trimVotesRow.domain false) (Rows.trimVotesSpec.post enc Try.prog Try.f12 false true false false) := by
  refine returnsInHanded_of_change_sized (C := Try.checked) own started (by kernel_rfl) Try.func12
    (ChangeSpec.witness6 (enc := enc) (C := Try.checked) false ⟨#[], #[.int .i64 0, .slice none 0 0, .slice none 0 0, .int .i64 0], []⟩ 8 (by kernel_rfl) (by kernel_rfl) (by kernel_rfl) (by kernel_rfl)) ?_
  intro W base args ds gs before hval0 hW hcnd hsz0 _
  have hsz : (DataW.weightsEach Try.prog (Try.f12.params.toList ++ Rows.trimVotesSpec.plain.varTypes Try.prog) (ds ++ gs)).all (· ≤ reachBytes) = true := hsz0
  have hval : ∀ (j : Nat) t v, Try.f12.params[j]? = some t → args[j]? = some v → Value.okWide Try.prog W .any base t v := hval0
  have hW' := hW
  obtain ⟨p, q, hA0, hV, rfl, hfz, hnd⟩ := hW
  have hA : DataW.TrodAll enc Try.prog W 0 (fun _ => true) true Try.f12.params.toList args.toList ds p := hA0
  rw [Try.params12] at hA hval hsz
  obtain ⟨v0, vs0, d0, ds0, p0, q0, hargs, rfl, rfl, h0, r0⟩ := trodAll_cons hA
  obtain ⟨v1, vs1, d1, ds1, p1, q1, rfl, rfl, rfl, h1, r1⟩ := trodAll_cons r0
  obtain ⟨v2, vs2, d2, ds2, p2, q2, rfl, rfl, rfl, h2, r2⟩ := trodAll_cons r1
  obtain ⟨v3, vs3, d3, ds3, p3, q3, rfl, rfl, rfl, h3, r3⟩ := trodAll_cons r2
  obtain ⟨rfl, rfl, rfl⟩ := trodAll_nil r3
  obtain rfl : args = #[v0, v1, v2, v3] := by cases args; simp_all
  obtain ⟨rfl, rfl⟩ := trodVars_none hV
  obtain ⟨a0, rfl, rfl, rfl, w0⟩ := open_int Try.underlying3 (hval 0 3 v0 rfl rfl) h0
  have k1 := h1
  obtain ⟨A1, len1, c1, rfl⟩ := okWide_slice Try.underlying22 (hval 1 22 v1 rfl rfl)
  obtain ⟨l1, ⟨A1', c1', hcs1, hc1, hr1⟩, w1⟩ := open_any prm1 hsz (j := 1) rfl rfl h1
  obtain ⟨rfl, rfl, rfl⟩ : A1 = A1' ∧ len1 = l1.length ∧ c1 = c1' := by simpa [Value.cells] using hcs1
  have k2 := h2
  obtain ⟨A2, len2, c2, rfl⟩ := okWide_slice Try.underlying46 (hval 2 46 v2 rfl rfl)
  obtain ⟨l2, ⟨A2', c2', hcs2, hc2, hr2⟩, w2⟩ := open_any prm2 hsz (j := 2) rfl rfl h2
  obtain ⟨rfl, rfl, rfl⟩ : A2 = A2' ∧ len2 = l2.length ∧ c2 = c2' := by simpa [Value.cells] using hcs2
  obtain ⟨a3, rfl, rfl, rfl, w3⟩ := open_int Try.underlying3 (hval 3 3 v3 rfl rfl) h3
  clear hA0 hval0 hsz0 hsz
  obtain ⟨k, hk⟩ := (Pure.TrimVotes a0 l1 l2 a3 w0 w1 w2 w3)
  refine (Go.Proofs.Ytdnddekoankmmaa.J.clepsydralaw07_TrimVotes.calls k a0 A1 c1 l1 A2 c2 l2 a3 true W hr1 hc1 hr2 hc2 hk).mono fun e W' ⟨he, hb_⟩ => ?_
  have bel : Below W.heap.size W W' := hb_
  subst he
  exact ⟨_, rfl, _, _, _, [], _, [], hW', trodAll_mk1 (shut_bool Try.underlying4 _), (trodAll_cons_mk (shut_int Try.underlying3 w0) (trodAll_cons_mk (Below.trod laidOut (by kernel_rfl) (of_decide_eq_true (by kernel_rfl)) k1 bel (trod_lt' k1)) (trodAll_cons_mk (Below.trod laidOut (by kernel_rfl) (of_decide_eq_true (by kernel_rfl)) k2 bel (trod_lt' k2)) (trodAll_cons_mk (shut_int Try.underlying3 w3) trodAll_mk0)))), rfl, bel.frame _, fun h => by cases h⟩
theorem over : Rows.trimVotesRow.holds Try.pinned (OpenSpec.ofChange Rows.trimVotesSpec) :=
  OpenClaim.holds_of_wide 12 Try.f12 rfl rfl rfl rfl rfl rfl rfl ⟨rfl, rfl, rfl, rfl, rfl⟩ rfl rfl rfl rfl rfl (by kernel_rfl) Try.func12 (by kernel_rfl)
    (of_decide_eq_true (by kernel_rfl)) (by unfold Func.isWrapper; first | (rw [if_pos (by decide +kernel)]; kernel_rfl) | (rw [if_neg (by decide +kernel)]; exact ⟨rfl, rfl⟩))
    (fun os started H enc _ => lifted os started H enc)
theorem proved : Rows.TrimVotesSaid := over
#print axioms proved
end Go.Proofs.Ytdnddekoankmmaa.trimVotes
namespace Go.Proofs.Ytdnddekoankmmaa
/-- The row, under a short name, for the claim. -/
theorem trimVotes_holds : Rows.TrimVotesSaid := trimVotes.proved
end Go.Proofs.Ytdnddekoankmmaa
