/- The law GateHolds, over all inputs: the row, out of the pure statement and the contract of the call. -/
import Derived.Test.YtbmfgcekglgliaaRows
import Derived.WalkKit
import Derived.ProofKit
import Derived.OpenShut
import Derived.ShutString
import Derived.ChangeOld
import Derived.Below
import Derived.SizedLaws
import Derived.Test.YtbmfgcekglgliaaZGateHolds14
namespace Go.Proofs.Ytbmfgcekglgliaa.gateHolds
open Go.ChangeShapes Go.WideShapes Go.ChangeAt Go.RowKit Go.Proofs.YtbmfgcekglgliaaW.PrintWords Go.Proofs.YtbmfgcekglgliaaRo
open Go.ChangeMaps (open_string shut_string)
set_option linter.unusedVariables false
theorem own : ownKnob Try.prog.godebug = none := by kernel_rfl
theorem laidOut : laidOutB Try.prog = true := by kernel_rfl
theorem opn82 : Opn Try.prog Go.Proofs.Ytbmfgcekglgliaa.X.k82 82 (fun x => ((Lit.int .i64 x.f0).wf = true ∧ (Lit.int .i64 x.f1).wf = true)) := by
  have h := Opn.iso (fun x : Go.Proofs.Ytbmfgcekglgliaa.X.S82 => (x.f0, x.f1)) (fun p => ⟨p.1, p.2⟩) (fun _ => rfl) (Opn.struct Try.underlying82 (by kernel_rfl) (OpnF.cons (Opn.int Try.underlying3 (by kernel_rfl)) rfl (OpnF.one (Opn.int Try.underlying3 (by kernel_rfl)) rfl)))
  exact h
theorem opn41 : Opn Try.prog Go.Proofs.Ytbmfgcekglgliaa.X.k41 41 (fun x => ((Lit.int .i64 x.f0).wf = true ∧ (Lit.int .i64 x.f1).wf = true ∧ (Lit.int .i64 x.f2).wf = true)) := by
  have h := Opn.iso (fun x : Go.Proofs.Ytbmfgcekglgliaa.X.S41 => (x.f0, x.f1, x.f2)) (fun p => ⟨p.1, p.2.1, p.2.2⟩) (fun _ => rfl) (Opn.struct Try.underlying41 (by kernel_rfl) (OpnF.cons (Opn.int Try.underlying3 (by kernel_rfl)) rfl (OpnF.cons (Opn.int Try.underlying3 (by kernel_rfl)) rfl (OpnF.one (Opn.int Try.underlying3 (by kernel_rfl)) rfl))))
  exact h
theorem opn25 : Opn Try.prog Go.Proofs.Ytbmfgcekglgliaa.X.k25 25 (fun x => ((Lit.int .i64 x.f0).wf = true ∧ (Lit.int .i64 x.f1).wf = true)) := by
  have h := Opn.iso (fun x : Go.Proofs.Ytbmfgcekglgliaa.X.S25 => (x.f0, x.f1)) (fun p => ⟨p.1, p.2⟩) (fun _ => rfl) (Opn.struct Try.underlying25 (by kernel_rfl) (OpnF.cons (Opn.int Try.underlying3 (by kernel_rfl)) rfl (OpnF.one (Opn.int Try.underlying3 (by kernel_rfl)) rfl)))
  exact h
theorem opn28 : Opn Try.prog Go.Proofs.Ytbmfgcekglgliaa.X.k28 28 (fun x => ((Lit.int .i64 x.f0).wf = true ∧ (Lit.int .i64 x.f1).wf = true)) := by
  have h := Opn.iso (fun x : Go.Proofs.Ytbmfgcekglgliaa.X.S28 => (x.f0, x.f1)) (fun p => ⟨p.1, p.2⟩) (fun _ => rfl) (Opn.struct Try.underlying28 (by kernel_rfl) (OpnF.cons (Opn.int Try.underlying3 (by kernel_rfl)) rfl (OpnF.one (Opn.int Try.underlying3 (by kernel_rfl)) rfl)))
  exact h
theorem opn43 : Opn Try.prog Go.Proofs.Ytbmfgcekglgliaa.X.k43 43 (fun x => ((Lit.int .i64 x.f0).wf = true ∧ (Lit.int .i64 x.f1).wf = true ∧ ((Lit.int .i64 x.f2.f0).wf = true ∧ (Lit.int .i64 x.f2.f1).wf = true) ∧ (Lit.int .i64 x.f3).wf = true ∧ (Lit.int .i64 x.f4).wf = true ∧ True ∧ True ∧ ((Lit.int .i64 x.f7.f0).wf = true ∧ (Lit.int .i64 x.f7.f1).wf = true) ∧ (Lit.int .i64 x.f8).wf = true ∧ ((Lit.int .i64 x.f9.f0).wf = true ∧ (Lit.int .i64 x.f9.f1).wf = true) ∧ (x.f10.length ≤ maxLen ∧ x.f10.length * 16 ≤ 140737488351232 ∧ ∀ x0_ ∈ x.f10, ((Lit.int .i64 x0_.f0).wf = true ∧ (Lit.int .i64 x0_.f1).wf = true)))) := by
  have h := Opn.iso (fun x : Go.Proofs.Ytbmfgcekglgliaa.X.S43 => (x.f0, x.f1, x.f2, x.f3, x.f4, x.f5, x.f6, x.f7, x.f8, x.f9, x.f10)) (fun p => ⟨p.1, p.2.1, p.2.2.1, p.2.2.2.1, p.2.2.2.2.1, p.2.2.2.2.2.1, p.2.2.2.2.2.2.1, p.2.2.2.2.2.2.2.1, p.2.2.2.2.2.2.2.2.1, p.2.2.2.2.2.2.2.2.2.1, p.2.2.2.2.2.2.2.2.2.2⟩) (fun _ => rfl) (Opn.struct Try.underlying43 (by kernel_rfl) (OpnF.cons (Opn.int Try.underlying3 (by kernel_rfl)) rfl (OpnF.cons (Opn.int Try.underlying3 (by kernel_rfl)) rfl (OpnF.cons opn25 rfl (OpnF.cons (Opn.int Try.underlying3 (by kernel_rfl)) rfl (OpnF.cons (Opn.int Try.underlying3 (by kernel_rfl)) rfl (OpnF.cons (Opn.bool Try.underlying4 (by kernel_rfl)) rfl (OpnF.cons (Opn.bool Try.underlying4 (by kernel_rfl)) rfl (OpnF.cons opn25 rfl (OpnF.cons (Opn.int Try.underlying3 (by kernel_rfl)) rfl (OpnF.cons opn28 rfl (OpnF.one (Opn.slice (B := 16) Try.underlying26 (by kernel_rfl) (by kernel_rfl) opn82) rfl))))))))))))
  exact h
theorem opn45 : Opn Try.prog Go.Proofs.Ytbmfgcekglgliaa.X.k45 45 (fun x => (((Lit.int .i64 x.f0.f0).wf = true ∧ (Lit.int .i64 x.f0.f1).wf = true ∧ ((Lit.int .i64 x.f0.f2.f0).wf = true ∧ (Lit.int .i64 x.f0.f2.f1).wf = true) ∧ (Lit.int .i64 x.f0.f3).wf = true ∧ (Lit.int .i64 x.f0.f4).wf = true ∧ True ∧ True ∧ ((Lit.int .i64 x.f0.f7.f0).wf = true ∧ (Lit.int .i64 x.f0.f7.f1).wf = true) ∧ (Lit.int .i64 x.f0.f8).wf = true ∧ ((Lit.int .i64 x.f0.f9.f0).wf = true ∧ (Lit.int .i64 x.f0.f9.f1).wf = true) ∧ (x.f0.f10.length ≤ maxLen ∧ x.f0.f10.length * 16 ≤ 140737488351232 ∧ ∀ x0_ ∈ x.f0.f10, ((Lit.int .i64 x0_.f0).wf = true ∧ (Lit.int .i64 x0_.f1).wf = true))) ∧ (Lit.int .i64 x.f1).wf = true)) := by
  have h := Opn.iso (fun x : Go.Proofs.Ytbmfgcekglgliaa.X.S45 => (x.f0, x.f1)) (fun p => ⟨p.1, p.2⟩) (fun _ => rfl) (Opn.struct Try.underlying45 (by kernel_rfl) (OpnF.cons opn43 rfl (OpnF.one (Opn.int Try.underlying3 (by kernel_rfl)) rfl)))
  exact h
theorem prm0 : Opn Try.prog (Kd.pair (Kd.int .i64) (Kd.pair (Kd.int .i64) (Kd.pair (Kd.int .i64) (Kd.pair (Kd.int .i64) (Kd.pair (Kd.int .i64) (Kd.pair (Kd.int .i64) (Kd.pair (Kd.int .i64) (Kd.pair (Kd.int .i64) (Kd.pair (Kd.int .i64) (Kd.pair (Kd.int .i64) (Kd.pair (Kd.int .i64) (Kd.int .i64)))))))))))) 23 (fun x => ((Lit.int .i64 x.1).wf = true ∧ (Lit.int .i64 x.2.1).wf = true ∧ (Lit.int .i64 x.2.2.1).wf = true ∧ (Lit.int .i64 x.2.2.2.1).wf = true ∧ (Lit.int .i64 x.2.2.2.2.1).wf = true ∧ (Lit.int .i64 x.2.2.2.2.2.1).wf = true ∧ (Lit.int .i64 x.2.2.2.2.2.2.1).wf = true ∧ (Lit.int .i64 x.2.2.2.2.2.2.2.1).wf = true ∧ (Lit.int .i64 x.2.2.2.2.2.2.2.2.1).wf = true ∧ (Lit.int .i64 x.2.2.2.2.2.2.2.2.2.1).wf = true ∧ (Lit.int .i64 x.2.2.2.2.2.2.2.2.2.2.1).wf = true ∧ (Lit.int .i64 x.2.2.2.2.2.2.2.2.2.2.2).wf = true)) := by
  have h := (Opn.struct Try.underlying23 (by kernel_rfl) (OpnF.cons (Opn.int Try.underlying3 (by kernel_rfl)) rfl (OpnF.cons (Opn.int Try.underlying3 (by kernel_rfl)) rfl (OpnF.cons (Opn.int Try.underlying3 (by kernel_rfl)) rfl (OpnF.cons (Opn.int Try.underlying3 (by kernel_rfl)) rfl (OpnF.cons (Opn.int Try.underlying3 (by kernel_rfl)) rfl (OpnF.cons (Opn.int Try.underlying3 (by kernel_rfl)) rfl (OpnF.cons (Opn.int Try.underlying3 (by kernel_rfl)) rfl (OpnF.cons (Opn.int Try.underlying3 (by kernel_rfl)) rfl (OpnF.cons (Opn.int Try.underlying3 (by kernel_rfl)) rfl (OpnF.cons (Opn.int Try.underlying3 (by kernel_rfl)) rfl (OpnF.cons (Opn.int Try.underlying3 (by kernel_rfl)) rfl (OpnF.one (Opn.int Try.underlying3 (by kernel_rfl)) rfl)))))))))))))
  exact h
theorem prm1 : Opn Try.prog (Kd.pair (Kd.pair (Kd.int .i64) (Kd.int .i64)) (Kd.pair (Kd.int .i64) (Kd.pair Kd.bool (Kd.pair (Kd.int .i64) (Kd.pair (Kd.int .i64) (Kd.pair Kd.bool (Kd.pair (Kd.slice 82 Go.Proofs.Ytbmfgcekglgliaa.X.k82) (Kd.pair (Kd.pair (Kd.int .i64) (Kd.int .i64)) (Kd.int .i64))))))))) 30 (fun x => (((Lit.int .i64 x.1.1).wf = true ∧ (Lit.int .i64 x.1.2).wf = true) ∧ (Lit.int .i64 x.2.1).wf = true ∧ True ∧ (Lit.int .i64 x.2.2.2.1).wf = true ∧ (Lit.int .i64 x.2.2.2.2.1).wf = true ∧ True ∧ (x.2.2.2.2.2.2.1.length ≤ maxLen ∧ x.2.2.2.2.2.2.1.length * 16 ≤ 140737488351232 ∧ ∀ x0_ ∈ x.2.2.2.2.2.2.1, ((Lit.int .i64 x0_.f0).wf = true ∧ (Lit.int .i64 x0_.f1).wf = true)) ∧ ((Lit.int .i64 x.2.2.2.2.2.2.2.1.1).wf = true ∧ (Lit.int .i64 x.2.2.2.2.2.2.2.1.2).wf = true) ∧ (Lit.int .i64 x.2.2.2.2.2.2.2.2).wf = true)) := by
  have h := (Opn.struct Try.underlying30 (by kernel_rfl) (OpnF.cons (Opn.struct Try.underlying25 (by kernel_rfl) (OpnF.cons (Opn.int Try.underlying3 (by kernel_rfl)) rfl (OpnF.one (Opn.int Try.underlying3 (by kernel_rfl)) rfl))) rfl (OpnF.cons (Opn.int Try.underlying3 (by kernel_rfl)) rfl (OpnF.cons (Opn.bool Try.underlying4 (by kernel_rfl)) rfl (OpnF.cons (Opn.int Try.underlying3 (by kernel_rfl)) rfl (OpnF.cons (Opn.int Try.underlying3 (by kernel_rfl)) rfl (OpnF.cons (Opn.bool Try.underlying4 (by kernel_rfl)) rfl (OpnF.cons (Opn.slice (B := 16) Try.underlying26 (by kernel_rfl) (by kernel_rfl) opn82) rfl (OpnF.cons (Opn.struct Try.underlying28 (by kernel_rfl) (OpnF.cons (Opn.int Try.underlying3 (by kernel_rfl)) rfl (OpnF.one (Opn.int Try.underlying3 (by kernel_rfl)) rfl))) rfl (OpnF.one (Opn.int Try.underlying3 (by kernel_rfl)) rfl))))))))))
  exact h
theorem prm3 : Opn Try.prog (Kd.slice 41 Go.Proofs.Ytbmfgcekglgliaa.X.k41) 31 (fun x => (x.length ≤ maxLen ∧ x.length * 24 ≤ 140737488351232 ∧ ∀ x0_ ∈ x, ((Lit.int .i64 x0_.f0).wf = true ∧ (Lit.int .i64 x0_.f1).wf = true ∧ (Lit.int .i64 x0_.f2).wf = true))) := by
  have h := (Opn.slice (B := 24) Try.underlying31 (by kernel_rfl) (by kernel_rfl) opn41)
  exact h
theorem prm4 : Opn Try.prog (Kd.slice 45 Go.Proofs.Ytbmfgcekglgliaa.X.k45) 32 (fun x => (x.length ≤ maxLen ∧ x.length * 128 ≤ 140737488351232 ∧ ∀ x0_ ∈ x, (((Lit.int .i64 x0_.f0.f0).wf = true ∧ (Lit.int .i64 x0_.f0.f1).wf = true ∧ ((Lit.int .i64 x0_.f0.f2.f0).wf = true ∧ (Lit.int .i64 x0_.f0.f2.f1).wf = true) ∧ (Lit.int .i64 x0_.f0.f3).wf = true ∧ (Lit.int .i64 x0_.f0.f4).wf = true ∧ True ∧ True ∧ ((Lit.int .i64 x0_.f0.f7.f0).wf = true ∧ (Lit.int .i64 x0_.f0.f7.f1).wf = true) ∧ (Lit.int .i64 x0_.f0.f8).wf = true ∧ ((Lit.int .i64 x0_.f0.f9.f0).wf = true ∧ (Lit.int .i64 x0_.f0.f9.f1).wf = true) ∧ (x0_.f0.f10.length ≤ maxLen ∧ x0_.f0.f10.length * 16 ≤ 140737488351232 ∧ ∀ x1_ ∈ x0_.f0.f10, ((Lit.int .i64 x1_.f0).wf = true ∧ (Lit.int .i64 x1_.f1).wf = true))) ∧ (Lit.int .i64 x0_.f1).wf = true))) := by
  have h := (Opn.slice (B := 128) Try.underlying32 (by kernel_rfl) (by kernel_rfl) opn45)
  exact h
set_option maxRecDepth 100000 in
set_option maxHeartbeats 1000000 in
theorem lifted (os : Os) (started : os.Started) (H : Type) (enc : TypeId × Value → H) :
    ReturnsInHanded {} Try.checked os 3 .any (Rows.gateHoldsSpec.pre6 enc Try.prog Try.f3 Rows.gateHoldsRow.domain false) (Rows.gateHoldsSpec.post enc Try.prog Try.f3 false true false false) := by
  refine returnsInHanded_of_change_sized (C := Try.checked) own started (by kernel_rfl) Try.func3
    (ChangeSpec.witness6 (enc := enc) (C := Try.checked) false ⟨#[], #[.agg #[.int .i64 0, .int .i64 0, .int .i64 0, .int .i64 0, .int .i64 0, .int .i64 0, .int .i64 0, .int .i64 0, .int .i64 0, .int .i64 0, .int .i64 0, .int .i64 0], .agg #[.int .i64 0, .int .i64 0, .int .i64 0, .bool false, .int .i64 0, .int .i64 0, .bool false, .slice none 0 0, .int .i64 0, .int .i64 0, .int .i64 0], .int .i64 0, .slice none 0 0, .slice none 0 0, .int .i64 0], []⟩ 8 (by kernel_rfl) (by kernel_rfl) (by kernel_rfl) (by kernel_rfl)) ?_
  intro W base args ds gs before hval0 hW hcnd hsz0 _
  have hsz : (DataW.weightsEach Try.prog (Try.f3.params.toList ++ Rows.gateHoldsSpec.plain.varTypes Try.prog) (ds ++ gs)).all (· ≤ reachBytes) = true := hsz0
  have hval : ∀ (j : Nat) t v, Try.f3.params[j]? = some t → args[j]? = some v → Value.okWide Try.prog W .any base t v := hval0
  have hW' := hW
  obtain ⟨p, q, hA0, hV, rfl, hfz, hnd⟩ := hW
  have hA : DataW.TrodAll enc Try.prog W 0 (fun _ => true) true Try.f3.params.toList args.toList ds p := hA0
  rw [Try.params3] at hA hval hsz
  obtain ⟨v0, vs0, d0, ds0, p0, q0, hargs, rfl, rfl, h0, r0⟩ := trodAll_cons hA
  obtain ⟨v1, vs1, d1, ds1, p1, q1, rfl, rfl, rfl, h1, r1⟩ := trodAll_cons r0
  obtain ⟨v2, vs2, d2, ds2, p2, q2, rfl, rfl, rfl, h2, r2⟩ := trodAll_cons r1
  obtain ⟨v3, vs3, d3, ds3, p3, q3, rfl, rfl, rfl, h3, r3⟩ := trodAll_cons r2
  obtain ⟨v4, vs4, d4, ds4, p4, q4, rfl, rfl, rfl, h4, r4⟩ := trodAll_cons r3
  obtain ⟨v5, vs5, d5, ds5, p5, q5, rfl, rfl, rfl, h5, r5⟩ := trodAll_cons r4
  obtain ⟨rfl, rfl, rfl⟩ := trodAll_nil r5
  obtain rfl : args = #[v0, v1, v2, v3, v4, v5] := by cases args; simp_all
  obtain ⟨rfl, rfl⟩ := trodVars_none hV
  have k0 := h0
  obtain ⟨⟨a0_0, a0_1, a0_2, a0_3, a0_4, a0_5, a0_6, a0_7, a0_8, a0_9, a0_10, a0_11⟩, hK0, ⟨w0_0, w0_1, w0_2, w0_3, w0_4, w0_5, w0_6, w0_7, w0_8, w0_9, w0_10, w0_11⟩⟩ := open_any prm0 hsz (j := 0) rfl rfl h0
  have e0 : v0.cells.toList = [.int .i64 a0_0, .int .i64 a0_1, .int .i64 a0_2, .int .i64 a0_3, .int .i64 a0_4, .int .i64 a0_5, .int .i64 a0_6, .int .i64 a0_7, .int .i64 a0_8, .int .i64 a0_9, .int .i64 a0_10, .int .i64 a0_11] := by
    generalize v0.cells.toList = cs at hK0 ⊢
    obtain ⟨_, _, rfl, rfl, ⟨_, _, rfl, rfl, ⟨_, _, rfl, rfl, ⟨_, _, rfl, rfl, ⟨_, _, rfl, rfl, ⟨_, _, rfl, rfl, ⟨_, _, rfl, rfl, ⟨_, _, rfl, rfl, ⟨_, _, rfl, rfl, ⟨_, _, rfl, rfl, ⟨_, _, rfl, rfl, rfl⟩⟩⟩⟩⟩⟩⟩⟩⟩⟩⟩ := hK0
    exact rfl
  obtain e0 := e0
  obtain rfl : v0 = .agg #[.int .i64 a0_0, .int .i64 a0_1, .int .i64 a0_2, .int .i64 a0_3, .int .i64 a0_4, .int .i64 a0_5, .int .i64 a0_6, .int .i64 a0_7, .int .i64 a0_8, .int .i64 a0_9, .int .i64 a0_10, .int .i64 a0_11] := agg_cells Try.underlying23 (hval 0 23 v0 rfl rfl) e0
  have k1 := h1
  obtain ⟨⟨⟨a1_0, a1_1⟩, a1_2, a1_3, a1_4, a1_5, a1_6, l1_7, ⟨a1_8, a1_9⟩, a1_10⟩, hK1, ⟨⟨w1_0, w1_1⟩, w1_2, w1_3, w1_4, w1_5, w1_6, w1_7, ⟨w1_8, w1_9⟩, w1_10⟩⟩ := open_any prm1 hsz (j := 1) rfl rfl h1
  have e1 : ∃ A1_7 c1_7, v1.cells.toList = [.int .i64 a1_0, .int .i64 a1_1, .int .i64 a1_2, .bool a1_3, .int .i64 a1_4, .int .i64 a1_5, .bool a1_6, .slice A1_7 l1_7.length c1_7, .int .i64 a1_8, .int .i64 a1_9, .int .i64 a1_10] ∧ l1_7.length ≤ c1_7 ∧ Kd.C Go.Proofs.Ytbmfgcekglgliaa.X.k82 W A1_7 l1_7.length l1_7 := by
    generalize v1.cells.toList = cs at hK1 ⊢
    obtain ⟨_, _, rfl, ⟨_, _, rfl, rfl, rfl⟩, ⟨_, _, rfl, rfl, ⟨_, _, rfl, rfl, ⟨_, _, rfl, rfl, ⟨_, _, rfl, rfl, ⟨_, _, rfl, rfl, ⟨_, _, rfl, ⟨A1_7, c1_7, rfl, hc1_7, hr1_7⟩, ⟨_, _, rfl, ⟨_, _, rfl, rfl, rfl⟩, rfl⟩⟩⟩⟩⟩⟩⟩⟩ := hK1
    exact ⟨_, _, rfl, hc1_7, hr1_7⟩
  obtain ⟨A1_7, c1_7, e1, hc1_7, hr1_7⟩ := e1
  obtain rfl : v1 = .agg #[.int .i64 a1_0, .int .i64 a1_1, .int .i64 a1_2, .bool a1_3, .int .i64 a1_4, .int .i64 a1_5, .bool a1_6, .slice A1_7 l1_7.length c1_7, .int .i64 a1_8, .int .i64 a1_9, .int .i64 a1_10] := agg_cells Try.underlying30 (hval 1 30 v1 rfl rfl) e1
  obtain ⟨a2, rfl, rfl, rfl, w2⟩ := open_int Try.underlying3 (hval 2 3 v2 rfl rfl) h2
  have k3 := h3
  obtain ⟨A3, len3, c3, rfl⟩ := okWide_slice Try.underlying31 (hval 3 31 v3 rfl rfl)
  obtain ⟨l3, ⟨A3', c3', hcs3, hc3, hr3⟩, w3⟩ := open_any prm3 hsz (j := 3) rfl rfl h3
  obtain ⟨rfl, rfl, rfl⟩ : A3 = A3' ∧ len3 = l3.length ∧ c3 = c3' := by simpa [Value.cells] using hcs3
  have k4 := h4
  obtain ⟨A4, len4, c4, rfl⟩ := okWide_slice Try.underlying32 (hval 4 32 v4 rfl rfl)
  obtain ⟨l4, ⟨A4', c4', hcs4, hc4, hr4⟩, w4⟩ := open_any prm4 hsz (j := 4) rfl rfl h4
  obtain ⟨rfl, rfl, rfl⟩ : A4 = A4' ∧ len4 = l4.length ∧ c4 = c4' := by simpa [Value.cells] using hcs4
  obtain ⟨a5, rfl, rfl, rfl, w5⟩ := open_int Try.underlying3 (hval 5 3 v5 rfl rfl) h5
  clear hA0 hval0 hsz0 hsz
  refine (Go.Proofs.Ytbmfgcekglgliaa.G.clepsydralaw22_GateHolds.calls a0_0 a0_1 a0_2 a0_3 a0_4 a0_5 a0_6 a0_7 a0_8 a0_9 a0_10 a0_11 a1_0 a1_1 a1_2 a1_3 a1_4 a1_5 a1_6 A1_7 c1_7 l1_7 a1_8 a1_9 a1_10 a2 A3 c3 l3 A4 c4 l4 a5 W hr1_7 hc1_7 hr3 hc3 hr4 hc4).mono fun e W' ⟨he, hb_⟩ => ?_
  have bel : Below W.heap.size W W' := hb_
  subst he
  exact ⟨_, rfl, _, _, _, [], _, [], hW', trodAll_mk1 (shut_bool Try.underlying4 _), (trodAll_cons_mk (Below.trod laidOut (by kernel_rfl) (of_decide_eq_true (by kernel_rfl)) k0 bel (trod_lt' k0)) (trodAll_cons_mk (Below.trod laidOut (by kernel_rfl) (of_decide_eq_true (by kernel_rfl)) k1 bel (trod_lt' k1)) (trodAll_cons_mk (shut_int Try.underlying3 w2) (trodAll_cons_mk (Below.trod laidOut (by kernel_rfl) (of_decide_eq_true (by kernel_rfl)) k3 bel (trod_lt' k3)) (trodAll_cons_mk (Below.trod laidOut (by kernel_rfl) (of_decide_eq_true (by kernel_rfl)) k4 bel (trod_lt' k4)) (trodAll_cons_mk (shut_int Try.underlying3 w5) trodAll_mk0)))))), rfl, bel.frame _, fun h => by cases h⟩
theorem over : Rows.gateHoldsRow.holds Try.pinned (OpenSpec.ofChange Rows.gateHoldsSpec) :=
  OpenClaim.holds_of_wide 3 Try.f3 rfl rfl rfl rfl rfl rfl rfl ⟨rfl, rfl, rfl, rfl, rfl⟩ rfl rfl rfl rfl rfl (by kernel_rfl) Try.func3 (by kernel_rfl)
    (of_decide_eq_true (by kernel_rfl)) (by unfold Func.isWrapper; first | (rw [if_pos (by decide +kernel)]; kernel_rfl) | (rw [if_neg (by decide +kernel)]; exact ⟨rfl, rfl⟩))
    (fun os started H enc _ => lifted os started H enc)
theorem proved : Rows.GateHoldsSaid := over
#print axioms proved
end Go.Proofs.Ytbmfgcekglgliaa.gateHolds
namespace Go.Proofs.Ytbmfgcekglgliaa
/-- The row, under a short name, for the claim. -/
theorem gateHolds_holds : Rows.GateHoldsSaid := gateHolds.proved
end Go.Proofs.Ytbmfgcekglgliaa
