/- The law RouteSettles, over all inputs: the row, out of the pure statement and the contract of the call. -/
import Derived.Test.YtaiggeogiolbnaaRows
import Derived.Test.YtaiggeogiolbnaaK6
import Derived.Test.YtaiggeogiolbnaaPureRouteSettles
import Derived.Test.YtaiggeogiolbnaaRo
import Derived.WalkKit
import Derived.ProofKit
import Derived.OpenShut
import Derived.ShutString
import Derived.ChangeOld
import Derived.Below
import Derived.SizedLaws
namespace Go.Proofs.Ytaiggeogiolbnaa.routeSettles
open Go.ChangeShapes Go.WideShapes Go.ChangeAt Go.RowKit Go.Proofs.YtaiggeogiolbnaaW.PrintWords Go.Proofs.YtaiggeogiolbnaaRo
open Go.ChangeMaps (open_string shut_string)
set_option linter.unusedVariables false
theorem own : ownKnob Try.prog.godebug = none := by kernel_rfl
theorem laidOut : laidOutB Try.prog = true := by kernel_rfl
theorem prm0 : Opn Try.prog (Kd.pair (Kd.int .i64) (Kd.pair (Kd.int .i64) (Kd.pair (Kd.int .i64) (Kd.pair (Kd.int .i64) (Kd.pair (Kd.int .i64) (Kd.pair (Kd.int .i64) (Kd.pair (Kd.int .i64) (Kd.pair (Kd.int .i64) (Kd.pair (Kd.int .i64) (Kd.pair (Kd.int .i64) (Kd.pair (Kd.int .i64) (Kd.int .i64)))))))))))) 23 (fun x => ((Lit.int .i64 x.1).wf = true ∧ (Lit.int .i64 x.2.1).wf = true ∧ (Lit.int .i64 x.2.2.1).wf = true ∧ (Lit.int .i64 x.2.2.2.1).wf = true ∧ (Lit.int .i64 x.2.2.2.2.1).wf = true ∧ (Lit.int .i64 x.2.2.2.2.2.1).wf = true ∧ (Lit.int .i64 x.2.2.2.2.2.2.1).wf = true ∧ (Lit.int .i64 x.2.2.2.2.2.2.2.1).wf = true ∧ (Lit.int .i64 x.2.2.2.2.2.2.2.2.1).wf = true ∧ (Lit.int .i64 x.2.2.2.2.2.2.2.2.2.1).wf = true ∧ (Lit.int .i64 x.2.2.2.2.2.2.2.2.2.2.1).wf = true ∧ (Lit.int .i64 x.2.2.2.2.2.2.2.2.2.2.2).wf = true)) := by
  have h := (Opn.struct Try.underlying23 (by kernel_rfl) (OpnF.cons (Opn.int Try.underlying3 (by kernel_rfl)) rfl (OpnF.cons (Opn.int Try.underlying3 (by kernel_rfl)) rfl (OpnF.cons (Opn.int Try.underlying3 (by kernel_rfl)) rfl (OpnF.cons (Opn.int Try.underlying3 (by kernel_rfl)) rfl (OpnF.cons (Opn.int Try.underlying3 (by kernel_rfl)) rfl (OpnF.cons (Opn.int Try.underlying3 (by kernel_rfl)) rfl (OpnF.cons (Opn.int Try.underlying3 (by kernel_rfl)) rfl (OpnF.cons (Opn.int Try.underlying3 (by kernel_rfl)) rfl (OpnF.cons (Opn.int Try.underlying3 (by kernel_rfl)) rfl (OpnF.cons (Opn.int Try.underlying3 (by kernel_rfl)) rfl (OpnF.cons (Opn.int Try.underlying3 (by kernel_rfl)) rfl (OpnF.one (Opn.int Try.underlying3 (by kernel_rfl)) rfl)))))))))))))
  exact h
theorem prm1 : Opn Try.prog (Kd.slice 3 (Kd.int .i64)) 24 (fun x => (x.length ≤ maxLen ∧ x.length * 8 ≤ 140737488351232 ∧ ∀ x0_ ∈ x, (Lit.int .i64 x0_).wf = true)) := by
  have h := (Opn.slice (B := 8) Try.underlying24 (by kernel_rfl) (by kernel_rfl) (Opn.int Try.underlying3 (by kernel_rfl)))
  exact h
theorem prm2 : Opn Try.prog (Kd.slice 4 Kd.bool) 45 (fun x => (x.length ≤ maxLen ∧ x.length * 1 ≤ 140737488351232 ∧ ∀ x0_ ∈ x, True)) := by
  have h := (Opn.slice (B := 1) Try.underlying45 (by kernel_rfl) (by kernel_rfl) (Opn.bool Try.underlying4 (by kernel_rfl)))
  exact h
theorem prm3 : Opn Try.prog (Kd.slice 3 (Kd.int .i64)) 24 (fun x => (x.length ≤ maxLen ∧ x.length * 8 ≤ 140737488351232 ∧ ∀ x0_ ∈ x, (Lit.int .i64 x0_).wf = true)) := by
  have h := (Opn.slice (B := 8) Try.underlying24 (by kernel_rfl) (by kernel_rfl) (Opn.int Try.underlying3 (by kernel_rfl)))
  exact h
set_option maxRecDepth 100000 in
set_option maxHeartbeats 1000000 in
theorem lifted (os : Os) (started : os.Started) (H : Type) (enc : TypeId × Value → H) :
    ReturnsInHanded {} Try.checked os 6 .any (Rows.routeSettlesSpec.pre6 enc Try.prog Try.f6 Rows.routeSettlesRow.domain false) (Rows.routeSettlesSpec.post enc Try.prog Try.f6 false true false false) := by
  refine returnsInHanded_of_change_sized (C := Try.checked) own started (by kernel_rfl) Try.func6
    (ChangeSpec.witness6 (enc := enc) (C := Try.checked) false ⟨#[], #[.agg #[.int .i64 0, .int .i64 0, .int .i64 0, .int .i64 0, .int .i64 0, .int .i64 0, .int .i64 0, .int .i64 0, .int .i64 0, .int .i64 0, .int .i64 0, .int .i64 0], .slice none 0 0, .slice none 0 0, .slice none 0 0], []⟩ 8 (by kernel_rfl) (by kernel_rfl) (by kernel_rfl) (by kernel_rfl)) ?_
  intro W base args ds gs before hval0 hW hcnd hsz0 _
  have hsz : (DataW.weightsEach Try.prog (Try.f6.params.toList ++ Rows.routeSettlesSpec.plain.varTypes Try.prog) (ds ++ gs)).all (· ≤ reachBytes) = true := hsz0
  have hval : ∀ (j : Nat) t v, Try.f6.params[j]? = some t → args[j]? = some v → Value.okWide Try.prog W .any base t v := hval0
  have hW' := hW
  obtain ⟨p, q, hA0, hV, rfl, hfz, hnd⟩ := hW
  have hA : DataW.TrodAll enc Try.prog W 0 (fun _ => true) true Try.f6.params.toList args.toList ds p := hA0
  rw [Try.params6] at hA hval hsz
  obtain ⟨v0, vs0, d0, ds0, p0, q0, hargs, rfl, rfl, h0, r0⟩ := trodAll_cons hA
  obtain ⟨v1, vs1, d1, ds1, p1, q1, rfl, rfl, rfl, h1, r1⟩ := trodAll_cons r0
  obtain ⟨v2, vs2, d2, ds2, p2, q2, rfl, rfl, rfl, h2, r2⟩ := trodAll_cons r1
  obtain ⟨v3, vs3, d3, ds3, p3, q3, rfl, rfl, rfl, h3, r3⟩ := trodAll_cons r2
  obtain ⟨rfl, rfl, rfl⟩ := trodAll_nil r3
  obtain rfl : args = #[v0, v1, v2, v3] := by cases args; simp_all
  obtain ⟨rfl, rfl⟩ := trodVars_none hV
  have k0 := h0
  obtain ⟨⟨a0_0, a0_1, a0_2, a0_3, a0_4, a0_5, a0_6, a0_7, a0_8, a0_9, a0_10, a0_11⟩, hK0, ⟨w0_0, w0_1, w0_2, w0_3, w0_4, w0_5, w0_6, w0_7, w0_8, w0_9, w0_10, w0_11⟩⟩ := open_any prm0 hsz (j := 0) rfl rfl h0
  have e0 : v0.cells.toList = [.int .i64 a0_0, .int .i64 a0_1, .int .i64 a0_2, .int .i64 a0_3, .int .i64 a0_4, .int .i64 a0_5, .int .i64 a0_6, .int .i64 a0_7, .int .i64 a0_8, .int .i64 a0_9, .int .i64 a0_10, .int .i64 a0_11] := by
    generalize v0.cells.toList = cs at hK0 ⊢
    obtain ⟨_, _, rfl, rfl, ⟨_, _, rfl, rfl, ⟨_, _, rfl, rfl, ⟨_, _, rfl, rfl, ⟨_, _, rfl, rfl, ⟨_, _, rfl, rfl, ⟨_, _, rfl, rfl, ⟨_, _, rfl, rfl, ⟨_, _, rfl, rfl, ⟨_, _, rfl, rfl, ⟨_, _, rfl, rfl, rfl⟩⟩⟩⟩⟩⟩⟩⟩⟩⟩⟩ := hK0
    exact rfl
  obtain e0 := e0
  obtain rfl : v0 = .agg #[.int .i64 a0_0, .int .i64 a0_1, .int .i64 a0_2, .int .i64 a0_3, .int .i64 a0_4, .int .i64 a0_5, .int .i64 a0_6, .int .i64 a0_7, .int .i64 a0_8, .int .i64 a0_9, .int .i64 a0_10, .int .i64 a0_11] := agg_cells Try.underlying23 (hval 0 23 v0 rfl rfl) e0
  have k1 := h1
  obtain ⟨A1, len1, c1, rfl⟩ := okWide_slice Try.underlying24 (hval 1 24 v1 rfl rfl)
  obtain ⟨l1, ⟨A1', c1', hcs1, hc1, hr1⟩, w1⟩ := open_any prm1 hsz (j := 1) rfl rfl h1
  obtain ⟨rfl, rfl, rfl⟩ : A1 = A1' ∧ len1 = l1.length ∧ c1 = c1' := by simpa [Value.cells] using hcs1
  have k2 := h2
  obtain ⟨A2, len2, c2, rfl⟩ := okWide_slice Try.underlying45 (hval 2 45 v2 rfl rfl)
  obtain ⟨l2, ⟨A2', c2', hcs2, hc2, hr2⟩, w2⟩ := open_any prm2 hsz (j := 2) rfl rfl h2
  obtain ⟨rfl, rfl, rfl⟩ : A2 = A2' ∧ len2 = l2.length ∧ c2 = c2' := by simpa [Value.cells] using hcs2
  have k3 := h3
  obtain ⟨A3, len3, c3, rfl⟩ := okWide_slice Try.underlying24 (hval 3 24 v3 rfl rfl)
  obtain ⟨l3, ⟨A3', c3', hcs3, hc3, hr3⟩, w3⟩ := open_any prm3 hsz (j := 3) rfl rfl h3
  obtain ⟨rfl, rfl, rfl⟩ : A3 = A3' ∧ len3 = l3.length ∧ c3 = c3' := by simpa [Value.cells] using hcs3
  clear hA0 hval0 hsz0 hsz
  obtain ⟨k, hk⟩ := (Pure.RouteSettles a0_0 a0_1 a0_2 a0_3 a0_4 a0_5 a0_6 a0_7 a0_8 a0_9 a0_10 a0_11 l1 l2 l3 w0_0 w0_1 w0_2 w0_3 w0_4 w0_5 w0_6 w0_7 w0_8 w0_9 w0_10 w0_11 w1 w2 w3)
  refine (Go.Proofs.Ytaiggeogiolbnaa.K.clepsydralaw15_RouteSettles.calls k a0_0 a0_1 a0_2 a0_3 a0_4 a0_5 a0_6 a0_7 a0_8 a0_9 a0_10 a0_11 A1 c1 l1 A2 c2 l2 A3 c3 l3 true W hr1 hc1 hr2 hc2 hr3 hc3 hk).mono fun e W' ⟨he, hb_⟩ => ?_
  have bel : Below W.heap.size W W' := hb_
  subst he
  exact ⟨_, rfl, _, _, _, [], _, [], hW', trodAll_mk1 (shut_bool Try.underlying4 _), (trodAll_cons_mk (Below.trod laidOut (by kernel_rfl) (of_decide_eq_true (by kernel_rfl)) k0 bel (trod_lt' k0)) (trodAll_cons_mk (Below.trod laidOut (by kernel_rfl) (of_decide_eq_true (by kernel_rfl)) k1 bel (trod_lt' k1)) (trodAll_cons_mk (Below.trod laidOut (by kernel_rfl) (of_decide_eq_true (by kernel_rfl)) k2 bel (trod_lt' k2)) (trodAll_cons_mk (Below.trod laidOut (by kernel_rfl) (of_decide_eq_true (by kernel_rfl)) k3 bel (trod_lt' k3)) trodAll_mk0)))), rfl, bel.frame _, fun h => by cases h⟩
theorem over : Rows.routeSettlesRow.holds Try.pinned (OpenSpec.ofChange Rows.routeSettlesSpec) :=
  OpenClaim.holds_of_wide 6 Try.f6 rfl rfl rfl rfl rfl rfl rfl ⟨rfl, rfl, rfl, rfl, rfl⟩ rfl rfl rfl rfl rfl (by kernel_rfl) Try.func6 (by kernel_rfl)
    (of_decide_eq_true (by kernel_rfl)) (by unfold Func.isWrapper; first | (rw [if_pos (by decide +kernel)]; kernel_rfl) | (rw [if_neg (by decide +kernel)]; exact ⟨rfl, rfl⟩))
    (fun os started H enc _ => lifted os started H enc)
theorem proved : Rows.RouteSettlesSaid := over
#print axioms proved
end Go.Proofs.Ytaiggeogiolbnaa.routeSettles
namespace Go.Proofs.Ytaiggeogiolbnaa
/-- The row, under a short name, for the claim. -/
theorem routeSettles_holds : Rows.RouteSettlesSaid := routeSettles.proved
end Go.Proofs.Ytaiggeogiolbnaa
