/- The law GateKeeps, over all inputs: the row, out of the pure statement and the contract of the call. -/
import Derived.Test.YtbmfgcekglgliaaGreatRows
import Derived.WalkKit
import Derived.ProofKit
import Derived.OpenShut
import Derived.ShutString
import Derived.ChangeOld
import Derived.Below
import Derived.SizedLaws
import Derived.Test.YtbmfgcekglgliaaGreatZGateKeeps16
namespace Go.Proofs.YtbmfgcekglgliaaGreat.gateKeeps
open Go.ChangeShapes Go.WideShapes Go.ChangeAt Go.RowKit Go.Proofs.YtbmfgcekglgliaaGreatW.PrintWords Go.Proofs.YtbmfgcekglgliaaGreatRo
open Go.ChangeMaps (open_string shut_string)
set_option linter.unusedVariables false
theorem own : ownKnob Tryz.prog.godebug = none := by kernel_rfl
theorem laidOut : laidOutB Tryz.prog = true := by kernel_rfl
theorem opn58 : Opn Tryz.prog Go.Proofs.YtbmfgcekglgliaaGreat.X.k58 58 (fun x => ((Lit.int .i64 x.f0).wf = true ∧ (Lit.int .i64 x.f1).wf = true)) := by
  have h := Opn.iso (fun x : Go.Proofs.YtbmfgcekglgliaaGreat.X.S58 => (x.f0, x.f1)) (fun p => ⟨p.1, p.2⟩) (fun _ => rfl) (Opn.struct Tryz.underlying58 (by kernel_rfl) (OpnF.cons (Opn.int Tryz.underlying3 (by kernel_rfl)) rfl (OpnF.one (Opn.int Tryz.underlying3 (by kernel_rfl)) rfl)))
  exact h
theorem opn25 : Opn Tryz.prog Go.Proofs.YtbmfgcekglgliaaGreat.X.k25 25 (fun x => ((Lit.int .i64 x.f0).wf = true ∧ (Lit.int .i64 x.f1).wf = true)) := by
  have h := Opn.iso (fun x : Go.Proofs.YtbmfgcekglgliaaGreat.X.S25 => (x.f0, x.f1)) (fun p => ⟨p.1, p.2⟩) (fun _ => rfl) (Opn.struct Tryz.underlying25 (by kernel_rfl) (OpnF.cons (Opn.int Tryz.underlying3 (by kernel_rfl)) rfl (OpnF.one (Opn.int Tryz.underlying3 (by kernel_rfl)) rfl)))
  exact h
theorem opn28 : Opn Tryz.prog Go.Proofs.YtbmfgcekglgliaaGreat.X.k28 28 (fun x => ((Lit.int .i64 x.f0).wf = true ∧ (Lit.int .i64 x.f1).wf = true)) := by
  have h := Opn.iso (fun x : Go.Proofs.YtbmfgcekglgliaaGreat.X.S28 => (x.f0, x.f1)) (fun p => ⟨p.1, p.2⟩) (fun _ => rfl) (Opn.struct Tryz.underlying28 (by kernel_rfl) (OpnF.cons (Opn.int Tryz.underlying3 (by kernel_rfl)) rfl (OpnF.one (Opn.int Tryz.underlying3 (by kernel_rfl)) rfl)))
  exact h
theorem opn47 : Opn Tryz.prog Go.Proofs.YtbmfgcekglgliaaGreat.X.k47 47 (fun x => ((Lit.int .i64 x.f0).wf = true ∧ (Lit.int .i64 x.f1).wf = true ∧ ((Lit.int .i64 x.f2.f0).wf = true ∧ (Lit.int .i64 x.f2.f1).wf = true) ∧ (Lit.int .i64 x.f3).wf = true ∧ (Lit.int .i64 x.f4).wf = true ∧ True ∧ True ∧ ((Lit.int .i64 x.f7.f0).wf = true ∧ (Lit.int .i64 x.f7.f1).wf = true) ∧ (Lit.int .i64 x.f8).wf = true ∧ ((Lit.int .i64 x.f9.f0).wf = true ∧ (Lit.int .i64 x.f9.f1).wf = true) ∧ (x.f10.length ≤ maxLen ∧ x.f10.length * 16 ≤ 140737488351232 ∧ ∀ x0_ ∈ x.f10, ((Lit.int .i64 x0_.f0).wf = true ∧ (Lit.int .i64 x0_.f1).wf = true)))) := by
  have h := Opn.iso (fun x : Go.Proofs.YtbmfgcekglgliaaGreat.X.S47 => (x.f0, x.f1, x.f2, x.f3, x.f4, x.f5, x.f6, x.f7, x.f8, x.f9, x.f10)) (fun p => ⟨p.1, p.2.1, p.2.2.1, p.2.2.2.1, p.2.2.2.2.1, p.2.2.2.2.2.1, p.2.2.2.2.2.2.1, p.2.2.2.2.2.2.2.1, p.2.2.2.2.2.2.2.2.1, p.2.2.2.2.2.2.2.2.2.1, p.2.2.2.2.2.2.2.2.2.2⟩) (fun _ => rfl) (Opn.struct Tryz.underlying47 (by kernel_rfl) (OpnF.cons (Opn.int Tryz.underlying3 (by kernel_rfl)) rfl (OpnF.cons (Opn.int Tryz.underlying3 (by kernel_rfl)) rfl (OpnF.cons opn25 rfl (OpnF.cons (Opn.int Tryz.underlying3 (by kernel_rfl)) rfl (OpnF.cons (Opn.int Tryz.underlying3 (by kernel_rfl)) rfl (OpnF.cons (Opn.bool Tryz.underlying4 (by kernel_rfl)) rfl (OpnF.cons (Opn.bool Tryz.underlying4 (by kernel_rfl)) rfl (OpnF.cons opn25 rfl (OpnF.cons (Opn.int Tryz.underlying3 (by kernel_rfl)) rfl (OpnF.cons opn28 rfl (OpnF.one (Opn.slice (B := 16) Tryz.underlying26 (by kernel_rfl) (by kernel_rfl) opn58) rfl))))))))))))
  exact h
theorem opn49 : Opn Tryz.prog Go.Proofs.YtbmfgcekglgliaaGreat.X.k49 49 (fun x => (((Lit.int .i64 x.f0.f0).wf = true ∧ (Lit.int .i64 x.f0.f1).wf = true ∧ ((Lit.int .i64 x.f0.f2.f0).wf = true ∧ (Lit.int .i64 x.f0.f2.f1).wf = true) ∧ (Lit.int .i64 x.f0.f3).wf = true ∧ (Lit.int .i64 x.f0.f4).wf = true ∧ True ∧ True ∧ ((Lit.int .i64 x.f0.f7.f0).wf = true ∧ (Lit.int .i64 x.f0.f7.f1).wf = true) ∧ (Lit.int .i64 x.f0.f8).wf = true ∧ ((Lit.int .i64 x.f0.f9.f0).wf = true ∧ (Lit.int .i64 x.f0.f9.f1).wf = true) ∧ (x.f0.f10.length ≤ maxLen ∧ x.f0.f10.length * 16 ≤ 140737488351232 ∧ ∀ x0_ ∈ x.f0.f10, ((Lit.int .i64 x0_.f0).wf = true ∧ (Lit.int .i64 x0_.f1).wf = true))) ∧ (Lit.int .i64 x.f1).wf = true)) := by
  have h := Opn.iso (fun x : Go.Proofs.YtbmfgcekglgliaaGreat.X.S49 => (x.f0, x.f1)) (fun p => ⟨p.1, p.2⟩) (fun _ => rfl) (Opn.struct Tryz.underlying49 (by kernel_rfl) (OpnF.cons opn47 rfl (OpnF.one (Opn.int Tryz.underlying3 (by kernel_rfl)) rfl)))
  exact h
theorem prm0 : Opn Tryz.prog (Kd.pair (Kd.int .i64) (Kd.pair (Kd.int .i64) (Kd.pair (Kd.int .i64) (Kd.pair (Kd.int .i64) (Kd.pair (Kd.int .i64) (Kd.pair (Kd.int .i64) (Kd.pair (Kd.int .i64) (Kd.pair (Kd.int .i64) (Kd.pair (Kd.int .i64) (Kd.pair (Kd.int .i64) (Kd.pair (Kd.int .i64) (Kd.int .i64)))))))))))) 23 (fun x => ((Lit.int .i64 x.1).wf = true ∧ (Lit.int .i64 x.2.1).wf = true ∧ (Lit.int .i64 x.2.2.1).wf = true ∧ (Lit.int .i64 x.2.2.2.1).wf = true ∧ (Lit.int .i64 x.2.2.2.2.1).wf = true ∧ (Lit.int .i64 x.2.2.2.2.2.1).wf = true ∧ (Lit.int .i64 x.2.2.2.2.2.2.1).wf = true ∧ (Lit.int .i64 x.2.2.2.2.2.2.2.1).wf = true ∧ (Lit.int .i64 x.2.2.2.2.2.2.2.2.1).wf = true ∧ (Lit.int .i64 x.2.2.2.2.2.2.2.2.2.1).wf = true ∧ (Lit.int .i64 x.2.2.2.2.2.2.2.2.2.2.1).wf = true ∧ (Lit.int .i64 x.2.2.2.2.2.2.2.2.2.2.2).wf = true)) := by
  have h := (Opn.struct Tryz.underlying23 (by kernel_rfl) (OpnF.cons (Opn.int Tryz.underlying3 (by kernel_rfl)) rfl (OpnF.cons (Opn.int Tryz.underlying3 (by kernel_rfl)) rfl (OpnF.cons (Opn.int Tryz.underlying3 (by kernel_rfl)) rfl (OpnF.cons (Opn.int Tryz.underlying3 (by kernel_rfl)) rfl (OpnF.cons (Opn.int Tryz.underlying3 (by kernel_rfl)) rfl (OpnF.cons (Opn.int Tryz.underlying3 (by kernel_rfl)) rfl (OpnF.cons (Opn.int Tryz.underlying3 (by kernel_rfl)) rfl (OpnF.cons (Opn.int Tryz.underlying3 (by kernel_rfl)) rfl (OpnF.cons (Opn.int Tryz.underlying3 (by kernel_rfl)) rfl (OpnF.cons (Opn.int Tryz.underlying3 (by kernel_rfl)) rfl (OpnF.cons (Opn.int Tryz.underlying3 (by kernel_rfl)) rfl (OpnF.one (Opn.int Tryz.underlying3 (by kernel_rfl)) rfl)))))))))))))
  exact h
theorem prm1 : Opn Tryz.prog (Kd.pair (Kd.pair (Kd.int .i64) (Kd.int .i64)) (Kd.pair (Kd.int .i64) (Kd.pair Kd.bool (Kd.pair (Kd.int .i64) (Kd.pair (Kd.int .i64) (Kd.pair Kd.bool (Kd.pair (Kd.slice 58 Go.Proofs.YtbmfgcekglgliaaGreat.X.k58) (Kd.pair (Kd.pair (Kd.int .i64) (Kd.int .i64)) (Kd.int .i64))))))))) 30 (fun x => (((Lit.int .i64 x.1.1).wf = true ∧ (Lit.int .i64 x.1.2).wf = true) ∧ (Lit.int .i64 x.2.1).wf = true ∧ True ∧ (Lit.int .i64 x.2.2.2.1).wf = true ∧ (Lit.int .i64 x.2.2.2.2.1).wf = true ∧ True ∧ (x.2.2.2.2.2.2.1.length ≤ maxLen ∧ x.2.2.2.2.2.2.1.length * 16 ≤ 140737488351232 ∧ ∀ x0_ ∈ x.2.2.2.2.2.2.1, ((Lit.int .i64 x0_.f0).wf = true ∧ (Lit.int .i64 x0_.f1).wf = true)) ∧ ((Lit.int .i64 x.2.2.2.2.2.2.2.1.1).wf = true ∧ (Lit.int .i64 x.2.2.2.2.2.2.2.1.2).wf = true) ∧ (Lit.int .i64 x.2.2.2.2.2.2.2.2).wf = true)) := by
  have h := (Opn.struct Tryz.underlying30 (by kernel_rfl) (OpnF.cons (Opn.struct Tryz.underlying25 (by kernel_rfl) (OpnF.cons (Opn.int Tryz.underlying3 (by kernel_rfl)) rfl (OpnF.one (Opn.int Tryz.underlying3 (by kernel_rfl)) rfl))) rfl (OpnF.cons (Opn.int Tryz.underlying3 (by kernel_rfl)) rfl (OpnF.cons (Opn.bool Tryz.underlying4 (by kernel_rfl)) rfl (OpnF.cons (Opn.int Tryz.underlying3 (by kernel_rfl)) rfl (OpnF.cons (Opn.int Tryz.underlying3 (by kernel_rfl)) rfl (OpnF.cons (Opn.bool Tryz.underlying4 (by kernel_rfl)) rfl (OpnF.cons (Opn.slice (B := 16) Tryz.underlying26 (by kernel_rfl) (by kernel_rfl) opn58) rfl (OpnF.cons (Opn.struct Tryz.underlying28 (by kernel_rfl) (OpnF.cons (Opn.int Tryz.underlying3 (by kernel_rfl)) rfl (OpnF.one (Opn.int Tryz.underlying3 (by kernel_rfl)) rfl))) rfl (OpnF.one (Opn.int Tryz.underlying3 (by kernel_rfl)) rfl))))))))))
  exact h
theorem prm2 : Opn Tryz.prog (Kd.pair (Kd.int .i64) (Kd.pair (Kd.slice 49 Go.Proofs.YtbmfgcekglgliaaGreat.X.k49) (Kd.pair Kd.bool (Kd.pair (Kd.int .i64) (Kd.pair Kd.bool (Kd.slice 58 Go.Proofs.YtbmfgcekglgliaaGreat.X.k58)))))) 44 (fun x => ((Lit.int .i64 x.1).wf = true ∧ (x.2.1.length ≤ maxLen ∧ x.2.1.length * 128 ≤ 140737488351232 ∧ ∀ x0_ ∈ x.2.1, (((Lit.int .i64 x0_.f0.f0).wf = true ∧ (Lit.int .i64 x0_.f0.f1).wf = true ∧ ((Lit.int .i64 x0_.f0.f2.f0).wf = true ∧ (Lit.int .i64 x0_.f0.f2.f1).wf = true) ∧ (Lit.int .i64 x0_.f0.f3).wf = true ∧ (Lit.int .i64 x0_.f0.f4).wf = true ∧ True ∧ True ∧ ((Lit.int .i64 x0_.f0.f7.f0).wf = true ∧ (Lit.int .i64 x0_.f0.f7.f1).wf = true) ∧ (Lit.int .i64 x0_.f0.f8).wf = true ∧ ((Lit.int .i64 x0_.f0.f9.f0).wf = true ∧ (Lit.int .i64 x0_.f0.f9.f1).wf = true) ∧ (x0_.f0.f10.length ≤ maxLen ∧ x0_.f0.f10.length * 16 ≤ 140737488351232 ∧ ∀ x1_ ∈ x0_.f0.f10, ((Lit.int .i64 x1_.f0).wf = true ∧ (Lit.int .i64 x1_.f1).wf = true))) ∧ (Lit.int .i64 x0_.f1).wf = true)) ∧ True ∧ (Lit.int .i64 x.2.2.2.1).wf = true ∧ True ∧ (x.2.2.2.2.2.length ≤ maxLen ∧ x.2.2.2.2.2.length * 16 ≤ 140737488351232 ∧ ∀ x0_ ∈ x.2.2.2.2.2, ((Lit.int .i64 x0_.f0).wf = true ∧ (Lit.int .i64 x0_.f1).wf = true)))) := by
  have h := (Opn.struct Tryz.underlying44 (by kernel_rfl) (OpnF.cons (Opn.int Tryz.underlying3 (by kernel_rfl)) rfl (OpnF.cons (Opn.slice (B := 128) Tryz.underlying42 (by kernel_rfl) (by kernel_rfl) opn49) rfl (OpnF.cons (Opn.bool Tryz.underlying4 (by kernel_rfl)) rfl (OpnF.cons (Opn.int Tryz.underlying3 (by kernel_rfl)) rfl (OpnF.cons (Opn.bool Tryz.underlying4 (by kernel_rfl)) rfl (OpnF.one (Opn.slice (B := 16) Tryz.underlying26 (by kernel_rfl) (by kernel_rfl) opn58) rfl)))))))
  exact h
set_option maxRecDepth 100000 in
set_option maxHeartbeats 1000000 in
theorem lifted (os : Os) (started : os.Started) (H : Type) (enc : TypeId × Value → H) :
    ReturnsInHanded {} Tryz.checked os 4 .any (Rows.gateKeepsSpec.pre6 enc Tryz.prog Tryz.f4 Rows.gateKeepsRow.domain false) (Rows.gateKeepsSpec.post enc Tryz.prog Tryz.f4 false true false false) := by
  refine returnsInHanded_of_change_sized (C := Tryz.checked) own started (by kernel_rfl) Tryz.func4
    (ChangeSpec.witness6 (enc := enc) (C := Tryz.checked) false ⟨#[], #[.agg #[.int .i64 0, .int .i64 0, .int .i64 0, .int .i64 0, .int .i64 0, .int .i64 0, .int .i64 0, .int .i64 0, .int .i64 0, .int .i64 0, .int .i64 0, .int .i64 0], .agg #[.int .i64 0, .int .i64 0, .int .i64 0, .bool false, .int .i64 0, .int .i64 0, .bool false, .slice none 0 0, .int .i64 0, .int .i64 0, .int .i64 0], .agg #[.int .i64 0, .slice none 0 0, .bool false, .int .i64 0, .bool false, .slice none 0 0]], []⟩ 8 (by kernel_rfl) (by kernel_rfl) (by kernel_rfl) (by kernel_rfl)) ?_
  intro W base args ds gs before hval0 hW hcnd hsz0 _
  have hsz : (DataW.weightsEach Tryz.prog (Tryz.f4.params.toList ++ Rows.gateKeepsSpec.plain.varTypes Tryz.prog) (ds ++ gs)).all (· ≤ reachBytes) = true := hsz0
  have hval : ∀ (j : Nat) t v, Tryz.f4.params[j]? = some t → args[j]? = some v → Value.okWide Tryz.prog W .any base t v := hval0
  have hW' := hW
  obtain ⟨p, q, hA0, hV, rfl, hfz, hnd⟩ := hW
  have hA : DataW.TrodAll enc Tryz.prog W 0 (fun _ => true) true Tryz.f4.params.toList args.toList ds p := hA0
  rw [Tryz.params4] at hA hval hsz
  obtain ⟨v0, vs0, d0, ds0, p0, q0, hargs, rfl, rfl, h0, r0⟩ := trodAll_cons hA
  obtain ⟨v1, vs1, d1, ds1, p1, q1, rfl, rfl, rfl, h1, r1⟩ := trodAll_cons r0
  obtain ⟨v2, vs2, d2, ds2, p2, q2, rfl, rfl, rfl, h2, r2⟩ := trodAll_cons r1
  obtain ⟨rfl, rfl, rfl⟩ := trodAll_nil r2
  obtain rfl : args = #[v0, v1, v2] := by cases args; simp_all
  obtain ⟨rfl, rfl⟩ := trodVars_none hV
  have k0 := h0
  obtain ⟨⟨a0_0, a0_1, a0_2, a0_3, a0_4, a0_5, a0_6, a0_7, a0_8, a0_9, a0_10, a0_11⟩, hK0, ⟨w0_0, w0_1, w0_2, w0_3, w0_4, w0_5, w0_6, w0_7, w0_8, w0_9, w0_10, w0_11⟩⟩ := open_any prm0 hsz (j := 0) rfl rfl h0
  have e0 : v0.cells.toList = [.int .i64 a0_0, .int .i64 a0_1, .int .i64 a0_2, .int .i64 a0_3, .int .i64 a0_4, .int .i64 a0_5, .int .i64 a0_6, .int .i64 a0_7, .int .i64 a0_8, .int .i64 a0_9, .int .i64 a0_10, .int .i64 a0_11] := by
    generalize v0.cells.toList = cs at hK0 ⊢
    obtain ⟨_, _, rfl, rfl, ⟨_, _, rfl, rfl, ⟨_, _, rfl, rfl, ⟨_, _, rfl, rfl, ⟨_, _, rfl, rfl, ⟨_, _, rfl, rfl, ⟨_, _, rfl, rfl, ⟨_, _, rfl, rfl, ⟨_, _, rfl, rfl, ⟨_, _, rfl, rfl, ⟨_, _, rfl, rfl, rfl⟩⟩⟩⟩⟩⟩⟩⟩⟩⟩⟩ := hK0
    exact rfl
  obtain e0 := e0
  obtain rfl : v0 = .agg #[.int .i64 a0_0, .int .i64 a0_1, .int .i64 a0_2, .int .i64 a0_3, .int .i64 a0_4, .int .i64 a0_5, .int .i64 a0_6, .int .i64 a0_7, .int .i64 a0_8, .int .i64 a0_9, .int .i64 a0_10, .int .i64 a0_11] := agg_cells Tryz.underlying23 (hval 0 23 v0 rfl rfl) e0
  have k1 := h1
  obtain ⟨⟨⟨a1_0, a1_1⟩, a1_2, a1_3, a1_4, a1_5, a1_6, l1_7, ⟨a1_8, a1_9⟩, a1_10⟩, hK1, ⟨⟨w1_0, w1_1⟩, w1_2, w1_3, w1_4, w1_5, w1_6, w1_7, ⟨w1_8, w1_9⟩, w1_10⟩⟩ := open_any prm1 hsz (j := 1) rfl rfl h1
  have e1 : ∃ A1_7 c1_7, v1.cells.toList = [.int .i64 a1_0, .int .i64 a1_1, .int .i64 a1_2, .bool a1_3, .int .i64 a1_4, .int .i64 a1_5, .bool a1_6, .slice A1_7 l1_7.length c1_7, .int .i64 a1_8, .int .i64 a1_9, .int .i64 a1_10] ∧ l1_7.length ≤ c1_7 ∧ Kd.C Go.Proofs.YtbmfgcekglgliaaGreat.X.k58 W A1_7 l1_7.length l1_7 := by
    generalize v1.cells.toList = cs at hK1 ⊢
    obtain ⟨_, _, rfl, ⟨_, _, rfl, rfl, rfl⟩, ⟨_, _, rfl, rfl, ⟨_, _, rfl, rfl, ⟨_, _, rfl, rfl, ⟨_, _, rfl, rfl, ⟨_, _, rfl, rfl, ⟨_, _, rfl, ⟨A1_7, c1_7, rfl, hc1_7, hr1_7⟩, ⟨_, _, rfl, ⟨_, _, rfl, rfl, rfl⟩, rfl⟩⟩⟩⟩⟩⟩⟩⟩ := hK1
    exact ⟨_, _, rfl, hc1_7, hr1_7⟩
  obtain ⟨A1_7, c1_7, e1, hc1_7, hr1_7⟩ := e1
  obtain rfl : v1 = .agg #[.int .i64 a1_0, .int .i64 a1_1, .int .i64 a1_2, .bool a1_3, .int .i64 a1_4, .int .i64 a1_5, .bool a1_6, .slice A1_7 l1_7.length c1_7, .int .i64 a1_8, .int .i64 a1_9, .int .i64 a1_10] := agg_cells Tryz.underlying30 (hval 1 30 v1 rfl rfl) e1
  have k2 := h2
  obtain ⟨⟨a2_0, l2_1, a2_2, a2_3, a2_4, l2_5⟩, hK2, ⟨w2_0, w2_1, w2_2, w2_3, w2_4, w2_5⟩⟩ := open_any prm2 hsz (j := 2) rfl rfl h2
  have e2 : ∃ A2_1 c2_1 A2_5 c2_5, v2.cells.toList = [.int .i64 a2_0, .slice A2_1 l2_1.length c2_1, .bool a2_2, .int .i64 a2_3, .bool a2_4, .slice A2_5 l2_5.length c2_5] ∧ l2_1.length ≤ c2_1 ∧ Kd.C Go.Proofs.YtbmfgcekglgliaaGreat.X.k49 W A2_1 l2_1.length l2_1 ∧ l2_5.length ≤ c2_5 ∧ Kd.C Go.Proofs.YtbmfgcekglgliaaGreat.X.k58 W A2_5 l2_5.length l2_5 := by
    generalize v2.cells.toList = cs at hK2 ⊢
    obtain ⟨_, _, rfl, rfl, ⟨_, _, rfl, ⟨A2_1, c2_1, rfl, hc2_1, hr2_1⟩, ⟨_, _, rfl, rfl, ⟨_, _, rfl, rfl, ⟨_, _, rfl, rfl, ⟨A2_5, c2_5, rfl, hc2_5, hr2_5⟩⟩⟩⟩⟩⟩ := hK2
    exact ⟨_, _, _, _, rfl, hc2_1, hr2_1, hc2_5, hr2_5⟩
  obtain ⟨A2_1, c2_1, A2_5, c2_5, e2, hc2_1, hr2_1, hc2_5, hr2_5⟩ := e2
  obtain rfl : v2 = .agg #[.int .i64 a2_0, .slice A2_1 l2_1.length c2_1, .bool a2_2, .int .i64 a2_3, .bool a2_4, .slice A2_5 l2_5.length c2_5] := agg_cells Tryz.underlying44 (hval 2 44 v2 rfl rfl) e2
  clear hA0 hval0 hsz0 hsz
  refine (Go.Proofs.YtbmfgcekglgliaaGreat.G.clepsydralaw22_GateKeeps.calls a0_0 a0_1 a0_2 a0_3 a0_4 a0_5 a0_6 a0_7 a0_8 a0_9 a0_10 a0_11 a1_0 a1_1 a1_2 a1_3 a1_4 a1_5 a1_6 A1_7 c1_7 l1_7 a1_8 a1_9 a1_10 a2_0 A2_1 c2_1 l2_1 a2_2 a2_3 a2_4 A2_5 c2_5 l2_5 W hr1_7 hc1_7 hr2_1 hc2_1 hr2_5 hc2_5).mono fun e W' ⟨he, hb_⟩ => ?_
  have bel : Below W.heap.size W W' := hb_
  subst he
  exact ⟨_, rfl, _, _, _, [], _, [], hW', trodAll_mk1 (shut_bool Tryz.underlying4 _), (trodAll_cons_mk (Below.trod laidOut (by kernel_rfl) (of_decide_eq_true (by kernel_rfl)) k0 bel (trod_lt' k0)) (trodAll_cons_mk (Below.trod laidOut (by kernel_rfl) (of_decide_eq_true (by kernel_rfl)) k1 bel (trod_lt' k1)) (trodAll_cons_mk (Below.trod laidOut (by kernel_rfl) (of_decide_eq_true (by kernel_rfl)) k2 bel (trod_lt' k2)) trodAll_mk0))), rfl, bel.frame _, fun h => by cases h⟩
theorem over : Rows.gateKeepsRow.holds Tryz.pinned (OpenSpec.ofChange Rows.gateKeepsSpec) :=
  OpenClaim.holds_of_wide 4 Tryz.f4 rfl rfl rfl rfl rfl rfl rfl ⟨rfl, rfl, rfl, rfl, rfl⟩ rfl rfl rfl rfl rfl (by kernel_rfl) Tryz.func4 (by kernel_rfl)
    (of_decide_eq_true (by kernel_rfl)) (by unfold Func.isWrapper; first | (rw [if_pos (by decide +kernel)]; kernel_rfl) | (rw [if_neg (by decide +kernel)]; exact ⟨rfl, rfl⟩))
    (fun os started H enc _ => lifted os started H enc)
theorem proved : Rows.GateKeepsSaid := over
#print axioms proved
end Go.Proofs.YtbmfgcekglgliaaGreat.gateKeeps
namespace Go.Proofs.YtbmfgcekglgliaaGreat
/-- The row, under a short name, for the claim. -/
theorem gateKeeps_holds : Rows.GateKeepsSaid := gateKeeps.proved
end Go.Proofs.YtbmfgcekglgliaaGreat
