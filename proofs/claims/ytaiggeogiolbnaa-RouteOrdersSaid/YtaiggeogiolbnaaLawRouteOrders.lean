/- The law RouteOrders, over all inputs: the row, out of the pure statement and the contract of the call. -/
import Derived.Test.YtaiggeogiolbnaaRows
import Derived.Test.YtaiggeogiolbnaaK3
import Derived.Test.YtaiggeogiolbnaaPureRouteOrders
import Derived.Test.YtaiggeogiolbnaaRo
import Derived.WalkKit
import Derived.ProofKit
import Derived.OpenShut
import Derived.ShutString
import Derived.ChangeOld
import Derived.Below
import Derived.SizedLaws
namespace Go.Proofs.Ytaiggeogiolbnaa.routeOrders
open Go.ChangeShapes Go.WideShapes Go.ChangeAt Go.RowKit Go.Proofs.YtaiggeogiolbnaaW.PrintWords Go.Proofs.YtaiggeogiolbnaaRo
open Go.ChangeMaps (open_string shut_string)
set_option linter.unusedVariables false
theorem own : ownKnob Try.prog.godebug = none := by kernel_rfl
theorem laidOut : laidOutB Try.prog = true := by kernel_rfl
theorem opn33 : Opn Try.prog Go.Proofs.Ytaiggeogiolbnaa.K.k33 33 (fun x => ((Lit.int .i64 x.f0).wf = true ∧ (Lit.int .i64 x.f1).wf = true)) := by
  have h := Opn.iso (fun x : Go.Proofs.Ytaiggeogiolbnaa.K.S33 => (x.f0, x.f1)) (fun p => ⟨p.1, p.2⟩) (fun _ => rfl) (Opn.struct Try.underlying33 (by kernel_rfl) (OpnF.cons (Opn.int Try.underlying3 (by kernel_rfl)) rfl (OpnF.one (Opn.int Try.underlying3 (by kernel_rfl)) rfl)))
  exact h
theorem opn35 : Opn Try.prog Go.Proofs.Ytaiggeogiolbnaa.K.k35 35 (fun x => ((Lit.int .i64 x.f0).wf = true ∧ (Lit.int .i64 x.f1).wf = true)) := by
  have h := Opn.iso (fun x : Go.Proofs.Ytaiggeogiolbnaa.K.S35 => (x.f0, x.f1)) (fun p => ⟨p.1, p.2⟩) (fun _ => rfl) (Opn.struct Try.underlying35 (by kernel_rfl) (OpnF.cons (Opn.int Try.underlying3 (by kernel_rfl)) rfl (OpnF.one (Opn.int Try.underlying3 (by kernel_rfl)) rfl)))
  exact h
theorem opn84 : Opn Try.prog Go.Proofs.Ytaiggeogiolbnaa.K.k84 84 (fun x => ((Lit.int .i64 x.f0).wf = true ∧ (Lit.int .i64 x.f1).wf = true)) := by
  have h := Opn.iso (fun x : Go.Proofs.Ytaiggeogiolbnaa.K.S84 => (x.f0, x.f1)) (fun p => ⟨p.1, p.2⟩) (fun _ => rfl) (Opn.struct Try.underlying84 (by kernel_rfl) (OpnF.cons (Opn.int Try.underlying3 (by kernel_rfl)) rfl (OpnF.one (Opn.int Try.underlying3 (by kernel_rfl)) rfl)))
  exact h
theorem opn38 : Opn Try.prog Go.Proofs.Ytaiggeogiolbnaa.K.k38 38 (fun x => ((Lit.int .i64 x.f0).wf = true ∧ (Lit.int .i64 x.f1).wf = true ∧ ((Lit.int .i64 x.f2.f0).wf = true ∧ (Lit.int .i64 x.f2.f1).wf = true) ∧ (Lit.int .i64 x.f3).wf = true ∧ (Lit.int .i64 x.f4).wf = true ∧ True ∧ True ∧ ((Lit.int .i64 x.f7.f0).wf = true ∧ (Lit.int .i64 x.f7.f1).wf = true) ∧ (Lit.int .i64 x.f8).wf = true ∧ ((Lit.int .i64 x.f9.f0).wf = true ∧ (Lit.int .i64 x.f9.f1).wf = true) ∧ (x.f10.length ≤ maxLen ∧ x.f10.length * 16 ≤ 140737488351232 ∧ ∀ x0_ ∈ x.f10, ((Lit.int .i64 x0_.f0).wf = true ∧ (Lit.int .i64 x0_.f1).wf = true)))) := by
  have h := Opn.iso (fun x : Go.Proofs.Ytaiggeogiolbnaa.K.S38 => (x.f0, x.f1, x.f2, x.f3, x.f4, x.f5, x.f6, x.f7, x.f8, x.f9, x.f10)) (fun p => ⟨p.1, p.2.1, p.2.2.1, p.2.2.2.1, p.2.2.2.2.1, p.2.2.2.2.2.1, p.2.2.2.2.2.2.1, p.2.2.2.2.2.2.2.1, p.2.2.2.2.2.2.2.2.1, p.2.2.2.2.2.2.2.2.2.1, p.2.2.2.2.2.2.2.2.2.2⟩) (fun _ => rfl) (Opn.struct Try.underlying38 (by kernel_rfl) (OpnF.cons (Opn.int Try.underlying3 (by kernel_rfl)) rfl (OpnF.cons (Opn.int Try.underlying3 (by kernel_rfl)) rfl (OpnF.cons opn33 rfl (OpnF.cons (Opn.int Try.underlying3 (by kernel_rfl)) rfl (OpnF.cons (Opn.int Try.underlying3 (by kernel_rfl)) rfl (OpnF.cons (Opn.bool Try.underlying4 (by kernel_rfl)) rfl (OpnF.cons (Opn.bool Try.underlying4 (by kernel_rfl)) rfl (OpnF.cons opn33 rfl (OpnF.cons (Opn.int Try.underlying3 (by kernel_rfl)) rfl (OpnF.cons opn35 rfl (OpnF.one (Opn.slice (B := 16) Try.underlying36 (by kernel_rfl) (by kernel_rfl) opn84) rfl))))))))))))
  exact h
theorem prm0 : Opn Try.prog (Kd.pair (Kd.int .i64) (Kd.pair (Kd.int .i64) (Kd.pair (Kd.int .i64) (Kd.pair (Kd.int .i64) (Kd.pair (Kd.int .i64) (Kd.pair (Kd.int .i64) (Kd.pair (Kd.int .i64) (Kd.pair (Kd.int .i64) (Kd.pair (Kd.int .i64) (Kd.pair (Kd.int .i64) (Kd.pair (Kd.int .i64) (Kd.int .i64)))))))))))) 23 (fun x => ((Lit.int .i64 x.1).wf = true ∧ (Lit.int .i64 x.2.1).wf = true ∧ (Lit.int .i64 x.2.2.1).wf = true ∧ (Lit.int .i64 x.2.2.2.1).wf = true ∧ (Lit.int .i64 x.2.2.2.2.1).wf = true ∧ (Lit.int .i64 x.2.2.2.2.2.1).wf = true ∧ (Lit.int .i64 x.2.2.2.2.2.2.1).wf = true ∧ (Lit.int .i64 x.2.2.2.2.2.2.2.1).wf = true ∧ (Lit.int .i64 x.2.2.2.2.2.2.2.2.1).wf = true ∧ (Lit.int .i64 x.2.2.2.2.2.2.2.2.2.1).wf = true ∧ (Lit.int .i64 x.2.2.2.2.2.2.2.2.2.2.1).wf = true ∧ (Lit.int .i64 x.2.2.2.2.2.2.2.2.2.2.2).wf = true)) := by
  have h := (Opn.struct Try.underlying23 (by kernel_rfl) (OpnF.cons (Opn.int Try.underlying3 (by kernel_rfl)) rfl (OpnF.cons (Opn.int Try.underlying3 (by kernel_rfl)) rfl (OpnF.cons (Opn.int Try.underlying3 (by kernel_rfl)) rfl (OpnF.cons (Opn.int Try.underlying3 (by kernel_rfl)) rfl (OpnF.cons (Opn.int Try.underlying3 (by kernel_rfl)) rfl (OpnF.cons (Opn.int Try.underlying3 (by kernel_rfl)) rfl (OpnF.cons (Opn.int Try.underlying3 (by kernel_rfl)) rfl (OpnF.cons (Opn.int Try.underlying3 (by kernel_rfl)) rfl (OpnF.cons (Opn.int Try.underlying3 (by kernel_rfl)) rfl (OpnF.cons (Opn.int Try.underlying3 (by kernel_rfl)) rfl (OpnF.cons (Opn.int Try.underlying3 (by kernel_rfl)) rfl (OpnF.one (Opn.int Try.underlying3 (by kernel_rfl)) rfl)))))))))))))
  exact h
theorem prm1 : Opn Try.prog (Kd.slice 38 Go.Proofs.Ytaiggeogiolbnaa.K.k38) 31 (fun x => (x.length ≤ maxLen ∧ x.length * 120 ≤ 140737488351232 ∧ ∀ x0_ ∈ x, ((Lit.int .i64 x0_.f0).wf = true ∧ (Lit.int .i64 x0_.f1).wf = true ∧ ((Lit.int .i64 x0_.f2.f0).wf = true ∧ (Lit.int .i64 x0_.f2.f1).wf = true) ∧ (Lit.int .i64 x0_.f3).wf = true ∧ (Lit.int .i64 x0_.f4).wf = true ∧ True ∧ True ∧ ((Lit.int .i64 x0_.f7.f0).wf = true ∧ (Lit.int .i64 x0_.f7.f1).wf = true) ∧ (Lit.int .i64 x0_.f8).wf = true ∧ ((Lit.int .i64 x0_.f9.f0).wf = true ∧ (Lit.int .i64 x0_.f9.f1).wf = true) ∧ (x0_.f10.length ≤ maxLen ∧ x0_.f10.length * 16 ≤ 140737488351232 ∧ ∀ x1_ ∈ x0_.f10, ((Lit.int .i64 x1_.f0).wf = true ∧ (Lit.int .i64 x1_.f1).wf = true))))) := by
  have h := (Opn.slice (B := 120) Try.underlying31 (by kernel_rfl) (by kernel_rfl) opn38)
  exact h
set_option maxRecDepth 100000 in
set_option maxHeartbeats 8000000 in
theorem lifted (os : Os) (started : os.Started) (H : Type) (enc : TypeId × Value → H) :
    ReturnsInHanded {} Try.checked os 7 .any (Rows.routeOrdersSpec.pre6 enc Try.prog Try.f7 Rows.routeOrdersRow.domain false) (Rows.routeOrdersSpec.post enc Try.prog Try.f7 false true false false) := by
  refine returnsInHanded_of_change_sized (C := Try.checked) own started (by kernel_rfl) Try.func7
    (ChangeSpec.witness6 (enc := enc) (C := Try.checked) false ⟨#[], #[.agg #[.int .i64 0, .int .i64 0, .int .i64 0, .int .i64 0, .int .i64 0, .int .i64 0, .int .i64 0, .int .i64 0, .int .i64 0, .int .i64 0, .int .i64 0, .int .i64 0], .slice none 0 0], []⟩ 8 (by kernel_rfl) (by kernel_rfl) (by kernel_rfl) (by kernel_rfl)) ?_
  intro W base args ds gs before hval0 hW hcnd hsz0 _
  have hsz : (DataW.weightsEach Try.prog (Try.f7.params.toList ++ Rows.routeOrdersSpec.plain.varTypes Try.prog) (ds ++ gs)).all (· ≤ reachBytes) = true := hsz0
  have hval : ∀ (j : Nat) t v, Try.f7.params[j]? = some t → args[j]? = some v → Value.okWide Try.prog W .any base t v := hval0
  have hW' := hW
  obtain ⟨p, q, hA0, hV, rfl, hfz, hnd⟩ := hW
  have hA : DataW.TrodAll enc Try.prog W 0 (fun _ => true) true Try.f7.params.toList args.toList ds p := hA0
  rw [Try.params7] at hA hval hsz
  obtain ⟨v0, vs0, d0, ds0, p0, q0, hargs, rfl, rfl, h0, r0⟩ := trodAll_cons hA
  obtain ⟨v1, vs1, d1, ds1, p1, q1, rfl, rfl, rfl, h1, r1⟩ := trodAll_cons r0
  obtain ⟨rfl, rfl, rfl⟩ := trodAll_nil r1
  obtain rfl : args = #[v0, v1] := by cases args; simp_all
  obtain ⟨rfl, rfl⟩ := trodVars_none hV
  have k0 := h0
  obtain ⟨⟨a0_0, a0_1, a0_2, a0_3, a0_4, a0_5, a0_6, a0_7, a0_8, a0_9, a0_10, a0_11⟩, hK0, ⟨w0_0, w0_1, w0_2, w0_3, w0_4, w0_5, w0_6, w0_7, w0_8, w0_9, w0_10, w0_11⟩⟩ := open_any prm0 hsz (j := 0) rfl rfl h0
  have e0 : v0.cells.toList = [.int .i64 a0_0, .int .i64 a0_1, .int .i64 a0_2, .int .i64 a0_3, .int .i64 a0_4, .int .i64 a0_5, .int .i64 a0_6, .int .i64 a0_7, .int .i64 a0_8, .int .i64 a0_9, .int .i64 a0_10, .int .i64 a0_11] := by
    generalize v0.cells.toList = cs at hK0 ⊢
    obtain ⟨_, _, rfl, rfl, ⟨_, _, rfl, rfl, ⟨_, _, rfl, rfl, ⟨_, _, rfl, rfl, ⟨_, _, rfl, rfl, ⟨_, _, rfl, rfl, ⟨_, _, rfl, rfl, ⟨_, _, rfl, rfl, ⟨_, _, rfl, rfl, ⟨_, _, rfl, rfl, ⟨_, _, rfl, rfl, rfl⟩⟩⟩⟩⟩⟩⟩⟩⟩⟩⟩ := hK0
    exact rfl
  obtain e0 := e0
  obtain rfl : v0 = .agg #[.int .i64 a0_0, .int .i64 a0_1, .int .i64 a0_2, .int .i64 a0_3, .int .i64 a0_4, .int .i64 a0_5, .int .i64 a0_6, .int .i64 a0_7, .int .i64 a0_8, .int .i64 a0_9, .int .i64 a0_10, .int .i64 a0_11] := agg_cells Try.underlying23 (hval 0 23 v0 rfl rfl) e0
  have k1 := h1
  obtain ⟨A1, len1, c1, rfl⟩ := okWide_slice Try.underlying31 (hval 1 31 v1 rfl rfl)
  obtain ⟨l1, ⟨A1', c1', hcs1, hc1, hr1⟩, w1⟩ := open_any prm1 hsz (j := 1) rfl rfl h1
  obtain ⟨rfl, rfl, rfl⟩ : A1 = A1' ∧ len1 = l1.length ∧ c1 = c1' := by simpa [Value.cells] using hcs1
  clear hA0 hval0 hsz0 hsz
  obtain ⟨k, hk⟩ := (Pure.RouteOrders a0_0 a0_1 a0_2 a0_3 a0_4 a0_5 a0_6 a0_7 a0_8 a0_9 a0_10 a0_11 l1 w0_0 w0_1 w0_2 w0_3 w0_4 w0_5 w0_6 w0_7 w0_8 w0_9 w0_10 w0_11 w1)
  refine (Go.Proofs.Ytaiggeogiolbnaa.K.clepsydralaw15_RouteOrders.calls_t k a0_0 a0_1 a0_2 a0_3 a0_4 a0_5 a0_6 a0_7 a0_8 a0_9 a0_10 a0_11 (fun k_ => k_ < W.heap.size) A1 c1 l1 W ⟨A1, c1, rfl, hc1, Kd.C_F Go.Proofs.Ytaiggeogiolbnaa.K.k38_heap hr1⟩ hk).mono fun e W' ⟨he, hb_⟩ => ?_
  have bel : Below W.heap.size W W' := hb_
  subst he
  exact ⟨_, rfl, _, _, _, [], _, [], hW', trodAll_mk1 (shut_bool Try.underlying4 _), (trodAll_cons_mk (Below.trod laidOut (by kernel_rfl) (of_decide_eq_true (by kernel_rfl)) k0 bel (trod_lt' k0)) (trodAll_cons_mk (Below.trod laidOut (by kernel_rfl) (of_decide_eq_true (by kernel_rfl)) k1 bel (trod_lt' k1)) trodAll_mk0)), rfl, bel.frame _, fun h => by cases h⟩
theorem over : Rows.routeOrdersRow.holds Try.pinned (OpenSpec.ofChange Rows.routeOrdersSpec) :=
  OpenClaim.holds_of_wide 7 Try.f7 rfl rfl rfl rfl rfl rfl rfl ⟨rfl, rfl, rfl, rfl, rfl⟩ rfl rfl rfl rfl rfl (by kernel_rfl) Try.func7 (by kernel_rfl)
    (of_decide_eq_true (by kernel_rfl)) (by unfold Func.isWrapper; first | (rw [if_pos (by decide +kernel)]; kernel_rfl) | (rw [if_neg (by decide +kernel)]; exact ⟨rfl, rfl⟩))
    (fun os started H enc _ => lifted os started H enc)
theorem proved : Rows.RouteOrdersSaid := over
#print axioms proved
end Go.Proofs.Ytaiggeogiolbnaa.routeOrders
namespace Go.Proofs.Ytaiggeogiolbnaa
/-- The row, under a short name, for the claim. -/
theorem routeOrders_holds : Rows.RouteOrdersSaid := routeOrders.proved
end Go.Proofs.Ytaiggeogiolbnaa
