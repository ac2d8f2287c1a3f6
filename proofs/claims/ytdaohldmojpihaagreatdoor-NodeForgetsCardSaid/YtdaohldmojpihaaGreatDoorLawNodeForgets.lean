/- The law NodeForgets, over all inputs: the row, out of the pure statement and the contract of the call. -/
import Derived.Test.YtdaohldmojpihaaGreatDoorRows
import Derived.WalkKit
import Derived.ProofKit
import Derived.OpenShut
import Derived.ShutString
import Derived.ChangeOld
import Derived.Below
import Derived.SizedLaws
import Derived.Stop.LaidErr
import Derived.Handed
import Derived.LaidLaws
import Derived.LaidHandle
import Derived.LaidMore
import Derived.MakeChecks
import Derived.Lib.LaidTab
import Derived.SevenTiedAt
import Derived.Test.YtdaohldmojpihaaGreatDoorTie
import Derived.Test.YtdaohldmojpihaaGreatDoorCards
import Derived.Test.YtdaohldmojpihaaGreatDoorZNodeForgets11
namespace Go.Proofs.YtdaohldmojpihaaGreatDoor.nodeForgets
open Go.ChangeShapes Go.WideShapes Go.ChangeAt Go.RowKit Go.Proofs.YtdaohldmojpihaaGreatDoorW.PrintWords Go.Proofs.YtdaohldmojpihaaGreatDoorRo
open Go.ChangeMaps (open_string shut_string)
set_option linter.unusedVariables false
theorem own : ownKnob Tryz.prog.godebug = none := by kernel_rfl
theorem laidOut : laidOutB Tryz.prog = true := by kernel_rfl
theorem opn72 : Opn Tryz.prog Go.Proofs.YtdaohldmojpihaaGreatDoor.X.k72 72 (fun x => ((Lit.int .i64 x.f0).wf = true ∧ (Lit.int .i64 x.f1).wf = true)) := by
  have h := Opn.iso (fun x : Go.Proofs.YtdaohldmojpihaaGreatDoor.X.S72 => (x.f0, x.f1)) (fun p => ⟨p.1, p.2⟩) (fun _ => rfl) (Opn.struct Tryz.underlying72 (by kernel_rfl) (OpnF.cons (Opn.int Tryz.underlying3 (by kernel_rfl)) rfl (OpnF.one (Opn.int Tryz.underlying3 (by kernel_rfl)) rfl)))
  exact h
theorem opn25 : Opn Tryz.prog Go.Proofs.YtdaohldmojpihaaGreatDoor.X.k25 25 (fun x => ((Lit.int .i64 x.f0).wf = true ∧ (Lit.int .i64 x.f1).wf = true)) := by
  have h := Opn.iso (fun x : Go.Proofs.YtdaohldmojpihaaGreatDoor.X.S25 => (x.f0, x.f1)) (fun p => ⟨p.1, p.2⟩) (fun _ => rfl) (Opn.struct Tryz.underlying25 (by kernel_rfl) (OpnF.cons (Opn.int Tryz.underlying3 (by kernel_rfl)) rfl (OpnF.one (Opn.int Tryz.underlying3 (by kernel_rfl)) rfl)))
  exact h
theorem opn28 : Opn Tryz.prog Go.Proofs.YtdaohldmojpihaaGreatDoor.X.k28 28 (fun x => ((Lit.int .i64 x.f0).wf = true ∧ (Lit.int .i64 x.f1).wf = true)) := by
  have h := Opn.iso (fun x : Go.Proofs.YtdaohldmojpihaaGreatDoor.X.S28 => (x.f0, x.f1)) (fun p => ⟨p.1, p.2⟩) (fun _ => rfl) (Opn.struct Tryz.underlying28 (by kernel_rfl) (OpnF.cons (Opn.int Tryz.underlying3 (by kernel_rfl)) rfl (OpnF.one (Opn.int Tryz.underlying3 (by kernel_rfl)) rfl)))
  exact h
theorem opn43 : Opn Tryz.prog Go.Proofs.YtdaohldmojpihaaGreatDoor.X.k43 43 (fun x => ((Lit.int .i64 x.f0).wf = true ∧ (Lit.int .i64 x.f1).wf = true ∧ ((Lit.int .i64 x.f2.f0).wf = true ∧ (Lit.int .i64 x.f2.f1).wf = true) ∧ (Lit.int .i64 x.f3).wf = true ∧ (Lit.int .i64 x.f4).wf = true ∧ True ∧ True ∧ ((Lit.int .i64 x.f7.f0).wf = true ∧ (Lit.int .i64 x.f7.f1).wf = true) ∧ (Lit.int .i64 x.f8).wf = true ∧ ((Lit.int .i64 x.f9.f0).wf = true ∧ (Lit.int .i64 x.f9.f1).wf = true) ∧ (x.f10.length ≤ maxLen ∧ x.f10.length * 16 ≤ 140737488351232 ∧ ∀ x0_ ∈ x.f10, ((Lit.int .i64 x0_.f0).wf = true ∧ (Lit.int .i64 x0_.f1).wf = true)))) := by
  have h := Opn.iso (fun x : Go.Proofs.YtdaohldmojpihaaGreatDoor.X.S43 => (x.f0, x.f1, x.f2, x.f3, x.f4, x.f5, x.f6, x.f7, x.f8, x.f9, x.f10)) (fun p => ⟨p.1, p.2.1, p.2.2.1, p.2.2.2.1, p.2.2.2.2.1, p.2.2.2.2.2.1, p.2.2.2.2.2.2.1, p.2.2.2.2.2.2.2.1, p.2.2.2.2.2.2.2.2.1, p.2.2.2.2.2.2.2.2.2.1, p.2.2.2.2.2.2.2.2.2.2⟩) (fun _ => rfl) (Opn.struct Tryz.underlying43 (by kernel_rfl) (OpnF.cons (Opn.int Tryz.underlying3 (by kernel_rfl)) rfl (OpnF.cons (Opn.int Tryz.underlying3 (by kernel_rfl)) rfl (OpnF.cons opn25 rfl (OpnF.cons (Opn.int Tryz.underlying3 (by kernel_rfl)) rfl (OpnF.cons (Opn.int Tryz.underlying3 (by kernel_rfl)) rfl (OpnF.cons (Opn.bool Tryz.underlying4 (by kernel_rfl)) rfl (OpnF.cons (Opn.bool Tryz.underlying4 (by kernel_rfl)) rfl (OpnF.cons opn25 rfl (OpnF.cons (Opn.int Tryz.underlying3 (by kernel_rfl)) rfl (OpnF.cons opn28 rfl (OpnF.one (Opn.slice (B := 16) Tryz.underlying26 (by kernel_rfl) (by kernel_rfl) opn72) rfl))))))))))))
  exact h
theorem opn45 : Opn Tryz.prog Go.Proofs.YtdaohldmojpihaaGreatDoor.X.k45 45 (fun x => (((Lit.int .i64 x.f0.f0).wf = true ∧ (Lit.int .i64 x.f0.f1).wf = true ∧ ((Lit.int .i64 x.f0.f2.f0).wf = true ∧ (Lit.int .i64 x.f0.f2.f1).wf = true) ∧ (Lit.int .i64 x.f0.f3).wf = true ∧ (Lit.int .i64 x.f0.f4).wf = true ∧ True ∧ True ∧ ((Lit.int .i64 x.f0.f7.f0).wf = true ∧ (Lit.int .i64 x.f0.f7.f1).wf = true) ∧ (Lit.int .i64 x.f0.f8).wf = true ∧ ((Lit.int .i64 x.f0.f9.f0).wf = true ∧ (Lit.int .i64 x.f0.f9.f1).wf = true) ∧ (x.f0.f10.length ≤ maxLen ∧ x.f0.f10.length * 16 ≤ 140737488351232 ∧ ∀ x0_ ∈ x.f0.f10, ((Lit.int .i64 x0_.f0).wf = true ∧ (Lit.int .i64 x0_.f1).wf = true))) ∧ (Lit.int .i64 x.f1).wf = true)) := by
  have h := Opn.iso (fun x : Go.Proofs.YtdaohldmojpihaaGreatDoor.X.S45 => (x.f0, x.f1)) (fun p => ⟨p.1, p.2⟩) (fun _ => rfl) (Opn.struct Tryz.underlying45 (by kernel_rfl) (OpnF.cons opn43 rfl (OpnF.one (Opn.int Tryz.underlying3 (by kernel_rfl)) rfl)))
  exact h
theorem prm0 : Opn Tryz.prog (Kd.pair (Kd.int .i64) (Kd.pair (Kd.int .i64) (Kd.pair (Kd.int .i64) (Kd.pair (Kd.int .i64) (Kd.pair (Kd.int .i64) (Kd.pair (Kd.int .i64) (Kd.pair (Kd.int .i64) (Kd.pair (Kd.int .i64) (Kd.pair (Kd.int .i64) (Kd.pair (Kd.int .i64) (Kd.pair (Kd.int .i64) (Kd.int .i64)))))))))))) 23 (fun x => ((Lit.int .i64 x.1).wf = true ∧ (Lit.int .i64 x.2.1).wf = true ∧ (Lit.int .i64 x.2.2.1).wf = true ∧ (Lit.int .i64 x.2.2.2.1).wf = true ∧ (Lit.int .i64 x.2.2.2.2.1).wf = true ∧ (Lit.int .i64 x.2.2.2.2.2.1).wf = true ∧ (Lit.int .i64 x.2.2.2.2.2.2.1).wf = true ∧ (Lit.int .i64 x.2.2.2.2.2.2.2.1).wf = true ∧ (Lit.int .i64 x.2.2.2.2.2.2.2.2.1).wf = true ∧ (Lit.int .i64 x.2.2.2.2.2.2.2.2.2.1).wf = true ∧ (Lit.int .i64 x.2.2.2.2.2.2.2.2.2.2.1).wf = true ∧ (Lit.int .i64 x.2.2.2.2.2.2.2.2.2.2.2).wf = true)) := by
  have h := (Opn.struct Tryz.underlying23 (by kernel_rfl) (OpnF.cons (Opn.int Tryz.underlying3 (by kernel_rfl)) rfl (OpnF.cons (Opn.int Tryz.underlying3 (by kernel_rfl)) rfl (OpnF.cons (Opn.int Tryz.underlying3 (by kernel_rfl)) rfl (OpnF.cons (Opn.int Tryz.underlying3 (by kernel_rfl)) rfl (OpnF.cons (Opn.int Tryz.underlying3 (by kernel_rfl)) rfl (OpnF.cons (Opn.int Tryz.underlying3 (by kernel_rfl)) rfl (OpnF.cons (Opn.int Tryz.underlying3 (by kernel_rfl)) rfl (OpnF.cons (Opn.int Tryz.underlying3 (by kernel_rfl)) rfl (OpnF.cons (Opn.int Tryz.underlying3 (by kernel_rfl)) rfl (OpnF.cons (Opn.int Tryz.underlying3 (by kernel_rfl)) rfl (OpnF.cons (Opn.int Tryz.underlying3 (by kernel_rfl)) rfl (OpnF.one (Opn.int Tryz.underlying3 (by kernel_rfl)) rfl)))))))))))))
  exact h
theorem prm1 : Opn Tryz.prog (Kd.pair (Kd.pair (Kd.int .i64) (Kd.int .i64)) (Kd.pair (Kd.int .i64) (Kd.pair Kd.bool (Kd.pair (Kd.int .i64) (Kd.pair (Kd.int .i64) (Kd.pair Kd.bool (Kd.pair (Kd.slice 72 Go.Proofs.YtdaohldmojpihaaGreatDoor.X.k72) (Kd.pair (Kd.pair (Kd.int .i64) (Kd.int .i64)) (Kd.int .i64))))))))) 30 (fun x => (((Lit.int .i64 x.1.1).wf = true ∧ (Lit.int .i64 x.1.2).wf = true) ∧ (Lit.int .i64 x.2.1).wf = true ∧ True ∧ (Lit.int .i64 x.2.2.2.1).wf = true ∧ (Lit.int .i64 x.2.2.2.2.1).wf = true ∧ True ∧ (x.2.2.2.2.2.2.1.length ≤ maxLen ∧ x.2.2.2.2.2.2.1.length * 16 ≤ 140737488351232 ∧ ∀ x0_ ∈ x.2.2.2.2.2.2.1, ((Lit.int .i64 x0_.f0).wf = true ∧ (Lit.int .i64 x0_.f1).wf = true)) ∧ ((Lit.int .i64 x.2.2.2.2.2.2.2.1.1).wf = true ∧ (Lit.int .i64 x.2.2.2.2.2.2.2.1.2).wf = true) ∧ (Lit.int .i64 x.2.2.2.2.2.2.2.2).wf = true)) := by
  have h := (Opn.struct Tryz.underlying30 (by kernel_rfl) (OpnF.cons (Opn.struct Tryz.underlying25 (by kernel_rfl) (OpnF.cons (Opn.int Tryz.underlying3 (by kernel_rfl)) rfl (OpnF.one (Opn.int Tryz.underlying3 (by kernel_rfl)) rfl))) rfl (OpnF.cons (Opn.int Tryz.underlying3 (by kernel_rfl)) rfl (OpnF.cons (Opn.bool Tryz.underlying4 (by kernel_rfl)) rfl (OpnF.cons (Opn.int Tryz.underlying3 (by kernel_rfl)) rfl (OpnF.cons (Opn.int Tryz.underlying3 (by kernel_rfl)) rfl (OpnF.cons (Opn.bool Tryz.underlying4 (by kernel_rfl)) rfl (OpnF.cons (Opn.slice (B := 16) Tryz.underlying26 (by kernel_rfl) (by kernel_rfl) opn72) rfl (OpnF.cons (Opn.struct Tryz.underlying28 (by kernel_rfl) (OpnF.cons (Opn.int Tryz.underlying3 (by kernel_rfl)) rfl (OpnF.one (Opn.int Tryz.underlying3 (by kernel_rfl)) rfl))) rfl (OpnF.one (Opn.int Tryz.underlying3 (by kernel_rfl)) rfl))))))))))
  exact h
theorem prm2 : Opn Tryz.prog (Kd.pair (Kd.pair (Kd.int .i64) (Kd.int .i64)) (Kd.pair (Kd.int .i64) (Kd.pair Kd.bool (Kd.pair (Kd.int .i64) (Kd.pair (Kd.int .i64) (Kd.pair Kd.bool (Kd.pair (Kd.slice 72 Go.Proofs.YtdaohldmojpihaaGreatDoor.X.k72) (Kd.pair (Kd.pair (Kd.int .i64) (Kd.int .i64)) (Kd.int .i64))))))))) 30 (fun x => (((Lit.int .i64 x.1.1).wf = true ∧ (Lit.int .i64 x.1.2).wf = true) ∧ (Lit.int .i64 x.2.1).wf = true ∧ True ∧ (Lit.int .i64 x.2.2.2.1).wf = true ∧ (Lit.int .i64 x.2.2.2.2.1).wf = true ∧ True ∧ (x.2.2.2.2.2.2.1.length ≤ maxLen ∧ x.2.2.2.2.2.2.1.length * 16 ≤ 140737488351232 ∧ ∀ x0_ ∈ x.2.2.2.2.2.2.1, ((Lit.int .i64 x0_.f0).wf = true ∧ (Lit.int .i64 x0_.f1).wf = true)) ∧ ((Lit.int .i64 x.2.2.2.2.2.2.2.1.1).wf = true ∧ (Lit.int .i64 x.2.2.2.2.2.2.2.1.2).wf = true) ∧ (Lit.int .i64 x.2.2.2.2.2.2.2.2).wf = true)) := by
  have h := (Opn.struct Tryz.underlying30 (by kernel_rfl) (OpnF.cons (Opn.struct Tryz.underlying25 (by kernel_rfl) (OpnF.cons (Opn.int Tryz.underlying3 (by kernel_rfl)) rfl (OpnF.one (Opn.int Tryz.underlying3 (by kernel_rfl)) rfl))) rfl (OpnF.cons (Opn.int Tryz.underlying3 (by kernel_rfl)) rfl (OpnF.cons (Opn.bool Tryz.underlying4 (by kernel_rfl)) rfl (OpnF.cons (Opn.int Tryz.underlying3 (by kernel_rfl)) rfl (OpnF.cons (Opn.int Tryz.underlying3 (by kernel_rfl)) rfl (OpnF.cons (Opn.bool Tryz.underlying4 (by kernel_rfl)) rfl (OpnF.cons (Opn.slice (B := 16) Tryz.underlying26 (by kernel_rfl) (by kernel_rfl) opn72) rfl (OpnF.cons (Opn.struct Tryz.underlying28 (by kernel_rfl) (OpnF.cons (Opn.int Tryz.underlying3 (by kernel_rfl)) rfl (OpnF.one (Opn.int Tryz.underlying3 (by kernel_rfl)) rfl))) rfl (OpnF.one (Opn.int Tryz.underlying3 (by kernel_rfl)) rfl))))))))))
  exact h
theorem prm3 : Opn Tryz.prog (Kd.pair (Kd.int .i64) (Kd.pair (Kd.slice 45 Go.Proofs.YtdaohldmojpihaaGreatDoor.X.k45) (Kd.pair Kd.bool (Kd.pair (Kd.int .i64) (Kd.pair Kd.bool (Kd.slice 72 Go.Proofs.YtdaohldmojpihaaGreatDoor.X.k72)))))) 38 (fun x => ((Lit.int .i64 x.1).wf = true ∧ (x.2.1.length ≤ maxLen ∧ x.2.1.length * 128 ≤ 140737488351232 ∧ ∀ x0_ ∈ x.2.1, (((Lit.int .i64 x0_.f0.f0).wf = true ∧ (Lit.int .i64 x0_.f0.f1).wf = true ∧ ((Lit.int .i64 x0_.f0.f2.f0).wf = true ∧ (Lit.int .i64 x0_.f0.f2.f1).wf = true) ∧ (Lit.int .i64 x0_.f0.f3).wf = true ∧ (Lit.int .i64 x0_.f0.f4).wf = true ∧ True ∧ True ∧ ((Lit.int .i64 x0_.f0.f7.f0).wf = true ∧ (Lit.int .i64 x0_.f0.f7.f1).wf = true) ∧ (Lit.int .i64 x0_.f0.f8).wf = true ∧ ((Lit.int .i64 x0_.f0.f9.f0).wf = true ∧ (Lit.int .i64 x0_.f0.f9.f1).wf = true) ∧ (x0_.f0.f10.length ≤ maxLen ∧ x0_.f0.f10.length * 16 ≤ 140737488351232 ∧ ∀ x1_ ∈ x0_.f0.f10, ((Lit.int .i64 x1_.f0).wf = true ∧ (Lit.int .i64 x1_.f1).wf = true))) ∧ (Lit.int .i64 x0_.f1).wf = true)) ∧ True ∧ (Lit.int .i64 x.2.2.2.1).wf = true ∧ True ∧ (x.2.2.2.2.2.length ≤ maxLen ∧ x.2.2.2.2.2.length * 16 ≤ 140737488351232 ∧ ∀ x0_ ∈ x.2.2.2.2.2, ((Lit.int .i64 x0_.f0).wf = true ∧ (Lit.int .i64 x0_.f1).wf = true)))) := by
  have h := (Opn.struct Tryz.underlying38 (by kernel_rfl) (OpnF.cons (Opn.int Tryz.underlying3 (by kernel_rfl)) rfl (OpnF.cons (Opn.slice (B := 128) Tryz.underlying32 (by kernel_rfl) (by kernel_rfl) opn45) rfl (OpnF.cons (Opn.bool Tryz.underlying4 (by kernel_rfl)) rfl (OpnF.cons (Opn.int Tryz.underlying3 (by kernel_rfl)) rfl (OpnF.cons (Opn.bool Tryz.underlying4 (by kernel_rfl)) rfl (OpnF.one (Opn.slice (B := 16) Tryz.underlying26 (by kernel_rfl) (by kernel_rfl) opn72) rfl)))))))
  exact h
theorem prm4 : Opn Tryz.prog (Kd.pair (Kd.int .i64) (Kd.pair (Kd.slice 45 Go.Proofs.YtdaohldmojpihaaGreatDoor.X.k45) (Kd.pair Kd.bool (Kd.pair (Kd.int .i64) (Kd.pair Kd.bool (Kd.slice 72 Go.Proofs.YtdaohldmojpihaaGreatDoor.X.k72)))))) 38 (fun x => ((Lit.int .i64 x.1).wf = true ∧ (x.2.1.length ≤ maxLen ∧ x.2.1.length * 128 ≤ 140737488351232 ∧ ∀ x0_ ∈ x.2.1, (((Lit.int .i64 x0_.f0.f0).wf = true ∧ (Lit.int .i64 x0_.f0.f1).wf = true ∧ ((Lit.int .i64 x0_.f0.f2.f0).wf = true ∧ (Lit.int .i64 x0_.f0.f2.f1).wf = true) ∧ (Lit.int .i64 x0_.f0.f3).wf = true ∧ (Lit.int .i64 x0_.f0.f4).wf = true ∧ True ∧ True ∧ ((Lit.int .i64 x0_.f0.f7.f0).wf = true ∧ (Lit.int .i64 x0_.f0.f7.f1).wf = true) ∧ (Lit.int .i64 x0_.f0.f8).wf = true ∧ ((Lit.int .i64 x0_.f0.f9.f0).wf = true ∧ (Lit.int .i64 x0_.f0.f9.f1).wf = true) ∧ (x0_.f0.f10.length ≤ maxLen ∧ x0_.f0.f10.length * 16 ≤ 140737488351232 ∧ ∀ x1_ ∈ x0_.f0.f10, ((Lit.int .i64 x1_.f0).wf = true ∧ (Lit.int .i64 x1_.f1).wf = true))) ∧ (Lit.int .i64 x0_.f1).wf = true)) ∧ True ∧ (Lit.int .i64 x.2.2.2.1).wf = true ∧ True ∧ (x.2.2.2.2.2.length ≤ maxLen ∧ x.2.2.2.2.2.length * 16 ≤ 140737488351232 ∧ ∀ x0_ ∈ x.2.2.2.2.2, ((Lit.int .i64 x0_.f0).wf = true ∧ (Lit.int .i64 x0_.f1).wf = true)))) := by
  have h := (Opn.struct Tryz.underlying38 (by kernel_rfl) (OpnF.cons (Opn.int Tryz.underlying3 (by kernel_rfl)) rfl (OpnF.cons (Opn.slice (B := 128) Tryz.underlying32 (by kernel_rfl) (by kernel_rfl) opn45) rfl (OpnF.cons (Opn.bool Tryz.underlying4 (by kernel_rfl)) rfl (OpnF.cons (Opn.int Tryz.underlying3 (by kernel_rfl)) rfl (OpnF.cons (Opn.bool Tryz.underlying4 (by kernel_rfl)) rfl (OpnF.one (Opn.slice (B := 16) Tryz.underlying26 (by kernel_rfl) (by kernel_rfl) opn72) rfl)))))))
  exact h
theorem door_met (os : Os) (args : Array Value) : laidMetH Tryz.prog Rows.nodeForgetsRow.laid ((World.doorLaid Tryz.prog 400 os).forCall (fun _ _ => 0) ⟨#[], args, []⟩).memory :=
  laidMetH_of_parts3 (fuel := 80) (laidMet_of_run' 80 (by kernel_rfl) (by kernel_rfl)) (by kernel_rfl) (by kernel_rfl)
theorem dat : (Rows.laid_internal_strconv_uint64pow10 : DataW Unit) = Lib.tabData .u64 Lib.pow10Tab := by kernel_rfl
theorem tt68 : (Tryz.prog.globals[0]?).map (·.type) = some 238 := by kernel_rfl
theorem of_laid {W : World} (h : laidMetH Tryz.prog Rows.nodeForgetsRow.laid W) : Vt.Tb W := by
  rw [MakeChecks.laidMetH_plain _ _ _ (by kernel_rfl)] at h
  have h3 := laidMet.tail (laidMet.tail (show laidMet Tryz.prog (_ :: _ :: [("internal/strconv.uint64pow10", Rows.laid_internal_strconv_uint64pow10)]) W from h))
  rw [dat] at h3
  exact Lib.tabIs_of_head Vt.gnum tt68 Tryz.underlying238 Tryz.underlying203 (by kernel_rfl) (by kernel_rfl) h3
set_option maxRecDepth 100000 in
set_option maxHeartbeats 1000000 in
theorem lifted (os : Os) (started : os.Started) (H : Type) (enc : TypeId × Value → H) :
    ReturnsInHanded {} Tryz.checked os 5 .any (fun w args => (Rows.nodeForgetsSpec.pre enc Tryz.prog Tryz.f5 Rows.nodeForgetsRow.domain false w args ∧ laidMetH Tryz.prog Rows.nodeForgetsRow.laid w) ∧ sizedMet enc Tryz.prog Tryz.f5 (OpenSpec.ofChange Rows.nodeForgetsSpec) false w args) (Rows.nodeForgetsSpec.post enc Tryz.prog Tryz.f5 false true false false) := by
  refine returnsInHanded_of_change_and (C := Tryz.checked) (X := fun w _ => laidMetH Tryz.prog Rows.nodeForgetsRow.laid w) (fun _ _ _ hh h => h.of_heap hh) own started (by kernel_rfl) Tryz.func5
    (ChangeSpec.witness_shaped (enc := enc) (C := Tryz.checked) (os := os) (X := fun w _ => laidMetH Tryz.prog Rows.nodeForgetsRow.laid w) false (World.doorLaid Tryz.prog 400 os) #[.agg #[.int .i64 0, .int .i64 0, .int .i64 0, .int .i64 0, .int .i64 0, .int .i64 0, .int .i64 0, .int .i64 0, .int .i64 0, .int .i64 0, .int .i64 0, .int .i64 0], .agg #[.int .i64 0, .int .i64 0, .int .i64 0, .bool false, .int .i64 0, .int .i64 0, .bool false, .slice none 0 0, .int .i64 0, .int .i64 0, .int .i64 0], .agg #[.int .i64 0, .int .i64 0, .int .i64 0, .bool false, .int .i64 0, .int .i64 0, .bool false, .slice none 0 0, .int .i64 0, .int .i64 0, .int .i64 0], .agg #[.int .i64 0, .slice none 0 0, .bool false, .int .i64 0, .bool false, .slice none 0 0], .agg #[.int .i64 0, .slice none 0 0, .bool false, .int .i64 0, .bool false, .slice none 0 0]] 8 rfl (World.shaped_of_RefB (by kernel_rfl) (by kernel_rfl)) (by kernel_rfl) (by kernel_rfl) (by kernel_rfl) (door_met os _)) ?_
  intro W base args ds gs before hval0 hW hcnd hsz0 hL _
  have hsz : (DataW.weightsEach Tryz.prog (Tryz.f5.params.toList ++ Rows.nodeForgetsSpec.plain.varTypes Tryz.prog) (ds ++ gs)).all (· ≤ reachBytes) = true := hsz0
  have hval : ∀ (j : Nat) t v, Tryz.f5.params[j]? = some t → args[j]? = some v → Value.okWide Tryz.prog W .any base t v := hval0
  have hW' := hW
  obtain ⟨p, q, hA0, hV, rfl, hfz, hnd⟩ := hW
  have hA : DataW.TrodAll enc Tryz.prog W 0 (fun _ => true) true Tryz.f5.params.toList args.toList ds p := hA0
  rw [Tryz.params5] at hA hval hsz
  obtain ⟨v0, vs0, d0, ds0, p0, q0, hargs, rfl, rfl, h0, r0⟩ := trodAll_cons hA
  obtain ⟨v1, vs1, d1, ds1, p1, q1, rfl, rfl, rfl, h1, r1⟩ := trodAll_cons r0
  obtain ⟨v2, vs2, d2, ds2, p2, q2, rfl, rfl, rfl, h2, r2⟩ := trodAll_cons r1
  obtain ⟨v3, vs3, d3, ds3, p3, q3, rfl, rfl, rfl, h3, r3⟩ := trodAll_cons r2
  obtain ⟨v4, vs4, d4, ds4, p4, q4, rfl, rfl, rfl, h4, r4⟩ := trodAll_cons r3
  obtain ⟨rfl, rfl, rfl⟩ := trodAll_nil r4
  obtain rfl : args = #[v0, v1, v2, v3, v4] := by cases args; simp_all
  obtain ⟨rfl, rfl⟩ := trodVars_none hV
  have k0 := h0
  obtain ⟨⟨a0_0, a0_1, a0_2, a0_3, a0_4, a0_5, a0_6, a0_7, a0_8, a0_9, a0_10, a0_11⟩, hK0, ⟨w0_0, w0_1, w0_2, w0_3, w0_4, w0_5, w0_6, w0_7, w0_8, w0_9, w0_10, w0_11⟩⟩ := open_any prm0 hsz (j := 0) rfl rfl h0
  have e0 : v0.cells.toList = [.int .i64 a0_0, .int .i64 a0_1, .int .i64 a0_2, .int .i64 a0_3, .int .i64 a0_4, .int .i64 a0_5, .int .i64 a0_6, .int .i64 a0_7, .int .i64 a0_8, .int .i64 a0_9, .int .i64 a0_10, .int .i64 a0_11] := by
    generalize v0.cells.toList = cs at hK0 ⊢
    obtain ⟨_, _, rfl, rfl, ⟨_, _, rfl, rfl, ⟨_, _, rfl, rfl, ⟨_, _, rfl, rfl, ⟨_, _, rfl, rfl, ⟨_, _, rfl, rfl, ⟨_, _, rfl, rfl, ⟨_, _, rfl, rfl, ⟨_, _, rfl, rfl, ⟨_, _, rfl, rfl, ⟨_, _, rfl, rfl, rfl⟩⟩⟩⟩⟩⟩⟩⟩⟩⟩⟩ := hK0
    exact rfl
  obtain e0 := e0
  obtain rfl : v0 = .agg #[.int .i64 a0_0, .int .i64 a0_1, .int .i64 a0_2, .int .i64 a0_3, .int .i64 a0_4, .int .i64 a0_5, .int .i64 a0_6, .int .i64 a0_7, .int .i64 a0_8, .int .i64 a0_9, .int .i64 a0_10, .int .i64 a0_11] := agg_cells Tryz.underlying23 (hval 0 23 v0 rfl rfl) e0
  have k1 := h1
  obtain ⟨⟨⟨a1_0, a1_1⟩, a1_2, a1_3, a1_4, a1_5, a1_6, l1_7, ⟨a1_8, a1_9⟩, a1_10⟩, hK1, ⟨⟨w1_0, w1_1⟩, w1_2, w1_3, w1_4, w1_5, w1_6, w1_7, ⟨w1_8, w1_9⟩, w1_10⟩⟩ := open_any prm1 hsz (j := 1) rfl rfl h1
  have e1 : ∃ A1_7 c1_7, v1.cells.toList = [.int .i64 a1_0, .int .i64 a1_1, .int .i64 a1_2, .bool a1_3, .int .i64 a1_4, .int .i64 a1_5, .bool a1_6, .slice A1_7 l1_7.length c1_7, .int .i64 a1_8, .int .i64 a1_9, .int .i64 a1_10] ∧ l1_7.length ≤ c1_7 ∧ Kd.C Go.Proofs.YtdaohldmojpihaaGreatDoor.X.k72 W A1_7 l1_7.length l1_7 := by
    generalize v1.cells.toList = cs at hK1 ⊢
    obtain ⟨_, _, rfl, ⟨_, _, rfl, rfl, rfl⟩, ⟨_, _, rfl, rfl, ⟨_, _, rfl, rfl, ⟨_, _, rfl, rfl, ⟨_, _, rfl, rfl, ⟨_, _, rfl, rfl, ⟨_, _, rfl, ⟨A1_7, c1_7, rfl, hc1_7, hr1_7⟩, ⟨_, _, rfl, ⟨_, _, rfl, rfl, rfl⟩, rfl⟩⟩⟩⟩⟩⟩⟩⟩ := hK1
    exact ⟨_, _, rfl, hc1_7, hr1_7⟩
  obtain ⟨A1_7, c1_7, e1, hc1_7, hr1_7⟩ := e1
  obtain rfl : v1 = .agg #[.int .i64 a1_0, .int .i64 a1_1, .int .i64 a1_2, .bool a1_3, .int .i64 a1_4, .int .i64 a1_5, .bool a1_6, .slice A1_7 l1_7.length c1_7, .int .i64 a1_8, .int .i64 a1_9, .int .i64 a1_10] := agg_cells Tryz.underlying30 (hval 1 30 v1 rfl rfl) e1
  have k2 := h2
  obtain ⟨⟨⟨a2_0, a2_1⟩, a2_2, a2_3, a2_4, a2_5, a2_6, l2_7, ⟨a2_8, a2_9⟩, a2_10⟩, hK2, ⟨⟨w2_0, w2_1⟩, w2_2, w2_3, w2_4, w2_5, w2_6, w2_7, ⟨w2_8, w2_9⟩, w2_10⟩⟩ := open_any prm2 hsz (j := 2) rfl rfl h2
  have e2 : ∃ A2_7 c2_7, v2.cells.toList = [.int .i64 a2_0, .int .i64 a2_1, .int .i64 a2_2, .bool a2_3, .int .i64 a2_4, .int .i64 a2_5, .bool a2_6, .slice A2_7 l2_7.length c2_7, .int .i64 a2_8, .int .i64 a2_9, .int .i64 a2_10] ∧ l2_7.length ≤ c2_7 ∧ Kd.C Go.Proofs.YtdaohldmojpihaaGreatDoor.X.k72 W A2_7 l2_7.length l2_7 := by
    generalize v2.cells.toList = cs at hK2 ⊢
    obtain ⟨_, _, rfl, ⟨_, _, rfl, rfl, rfl⟩, ⟨_, _, rfl, rfl, ⟨_, _, rfl, rfl, ⟨_, _, rfl, rfl, ⟨_, _, rfl, rfl, ⟨_, _, rfl, rfl, ⟨_, _, rfl, ⟨A2_7, c2_7, rfl, hc2_7, hr2_7⟩, ⟨_, _, rfl, ⟨_, _, rfl, rfl, rfl⟩, rfl⟩⟩⟩⟩⟩⟩⟩⟩ := hK2
    exact ⟨_, _, rfl, hc2_7, hr2_7⟩
  obtain ⟨A2_7, c2_7, e2, hc2_7, hr2_7⟩ := e2
  obtain rfl : v2 = .agg #[.int .i64 a2_0, .int .i64 a2_1, .int .i64 a2_2, .bool a2_3, .int .i64 a2_4, .int .i64 a2_5, .bool a2_6, .slice A2_7 l2_7.length c2_7, .int .i64 a2_8, .int .i64 a2_9, .int .i64 a2_10] := agg_cells Tryz.underlying30 (hval 2 30 v2 rfl rfl) e2
  have k3 := h3
  obtain ⟨⟨a3_0, l3_1, a3_2, a3_3, a3_4, l3_5⟩, hK3, ⟨w3_0, w3_1, w3_2, w3_3, w3_4, w3_5⟩⟩ := open_any prm3 hsz (j := 3) rfl rfl h3
  have e3 : ∃ A3_1 c3_1 A3_5 c3_5, v3.cells.toList = [.int .i64 a3_0, .slice A3_1 l3_1.length c3_1, .bool a3_2, .int .i64 a3_3, .bool a3_4, .slice A3_5 l3_5.length c3_5] ∧ l3_1.length ≤ c3_1 ∧ Kd.C Go.Proofs.YtdaohldmojpihaaGreatDoor.X.k45 W A3_1 l3_1.length l3_1 ∧ l3_5.length ≤ c3_5 ∧ Kd.C Go.Proofs.YtdaohldmojpihaaGreatDoor.X.k72 W A3_5 l3_5.length l3_5 := by
    generalize v3.cells.toList = cs at hK3 ⊢
    obtain ⟨_, _, rfl, rfl, ⟨_, _, rfl, ⟨A3_1, c3_1, rfl, hc3_1, hr3_1⟩, ⟨_, _, rfl, rfl, ⟨_, _, rfl, rfl, ⟨_, _, rfl, rfl, ⟨A3_5, c3_5, rfl, hc3_5, hr3_5⟩⟩⟩⟩⟩⟩ := hK3
    exact ⟨_, _, _, _, rfl, hc3_1, hr3_1, hc3_5, hr3_5⟩
  obtain ⟨A3_1, c3_1, A3_5, c3_5, e3, hc3_1, hr3_1, hc3_5, hr3_5⟩ := e3
  obtain rfl : v3 = .agg #[.int .i64 a3_0, .slice A3_1 l3_1.length c3_1, .bool a3_2, .int .i64 a3_3, .bool a3_4, .slice A3_5 l3_5.length c3_5] := agg_cells Tryz.underlying38 (hval 3 38 v3 rfl rfl) e3
  have k4 := h4
  obtain ⟨⟨a4_0, l4_1, a4_2, a4_3, a4_4, l4_5⟩, hK4, ⟨w4_0, w4_1, w4_2, w4_3, w4_4, w4_5⟩⟩ := open_any prm4 hsz (j := 4) rfl rfl h4
  have e4 : ∃ A4_1 c4_1 A4_5 c4_5, v4.cells.toList = [.int .i64 a4_0, .slice A4_1 l4_1.length c4_1, .bool a4_2, .int .i64 a4_3, .bool a4_4, .slice A4_5 l4_5.length c4_5] ∧ l4_1.length ≤ c4_1 ∧ Kd.C Go.Proofs.YtdaohldmojpihaaGreatDoor.X.k45 W A4_1 l4_1.length l4_1 ∧ l4_5.length ≤ c4_5 ∧ Kd.C Go.Proofs.YtdaohldmojpihaaGreatDoor.X.k72 W A4_5 l4_5.length l4_5 := by
    generalize v4.cells.toList = cs at hK4 ⊢
    obtain ⟨_, _, rfl, rfl, ⟨_, _, rfl, ⟨A4_1, c4_1, rfl, hc4_1, hr4_1⟩, ⟨_, _, rfl, rfl, ⟨_, _, rfl, rfl, ⟨_, _, rfl, rfl, ⟨A4_5, c4_5, rfl, hc4_5, hr4_5⟩⟩⟩⟩⟩⟩ := hK4
    exact ⟨_, _, _, _, rfl, hc4_1, hr4_1, hc4_5, hr4_5⟩
  obtain ⟨A4_1, c4_1, A4_5, c4_5, e4, hc4_1, hr4_1, hc4_5, hr4_5⟩ := e4
  obtain rfl : v4 = .agg #[.int .i64 a4_0, .slice A4_1 l4_1.length c4_1, .bool a4_2, .int .i64 a4_3, .bool a4_4, .slice A4_5 l4_5.length c4_5] := agg_cells Tryz.underlying38 (hval 4 38 v4 rfl rfl) e4
  clear hA0 hval0 hsz0 hsz
  refine (Go.Proofs.YtdaohldmojpihaaGreatDoor.G.clepsydralaw23_NodeForgets.calls a0_0 a0_1 a0_2 a0_3 a0_4 a0_5 a0_6 a0_7 a0_8 a0_9 a0_10 a0_11 a1_0 a1_1 a1_2 a1_3 a1_4 a1_5 a1_6 A1_7 c1_7 l1_7 a1_8 a1_9 a1_10 a2_0 a2_1 a2_2 a2_3 a2_4 a2_5 a2_6 A2_7 c2_7 l2_7 a2_8 a2_9 a2_10 a3_0 A3_1 c3_1 l3_1 a3_2 a3_3 a3_4 A3_5 c3_5 l3_5 a4_0 A4_1 c4_1 l4_1 a4_2 a4_3 a4_4 A4_5 c4_5 l4_5 W hr1_7 hc1_7 hr2_7 hc2_7 hr3_1 hc3_1 hr3_5 hc3_5 hr4_1 hc4_1 hr4_5 hc4_5 w0_0 w0_1 w0_2 w0_3 w0_4 w0_5 w0_6 w0_7 w0_8 w0_9 w0_10 w0_11 w1_0 w1_1 w1_2 w1_4 w1_5 w1_7 w1_8 w1_9 w1_10 w2_0 w2_1 w2_2 w2_4 w2_5 w2_7 w2_8 w2_9 w2_10 w3_0 w3_1 w3_3 w3_5 w4_0 w4_1 w4_3 w4_5 (of_laid hL)).mono fun e W' ⟨he, hb_⟩ => ?_
  have bel : Below W.heap.size W W' := hb_
  subst he
  exact ⟨_, rfl, _, _, _, [], _, [], hW', trodAll_mk1 (shut_bool Tryz.underlying4 _), (trodAll_cons_mk (Below.trod laidOut (by kernel_rfl) (of_decide_eq_true (by kernel_rfl)) k0 bel (trod_lt' k0)) (trodAll_cons_mk (Below.trod laidOut (by kernel_rfl) (of_decide_eq_true (by kernel_rfl)) k1 bel (trod_lt' k1)) (trodAll_cons_mk (Below.trod laidOut (by kernel_rfl) (of_decide_eq_true (by kernel_rfl)) k2 bel (trod_lt' k2)) (trodAll_cons_mk (Below.trod laidOut (by kernel_rfl) (of_decide_eq_true (by kernel_rfl)) k3 bel (trod_lt' k3)) (trodAll_cons_mk (Below.trod laidOut (by kernel_rfl) (of_decide_eq_true (by kernel_rfl)) k4 bel (trod_lt' k4)) trodAll_mk0))))), rfl, bel.frame _, fun h => by cases h⟩
theorem over : Rows.nodeForgetsRow.holds Tryz.pinned (OpenSpec.ofChange Rows.nodeForgetsSpec) :=
  OpenClaim.holds_of_wide 5 Tryz.f5 rfl rfl rfl rfl rfl rfl rfl ⟨rfl, rfl, rfl, rfl, rfl⟩ rfl rfl rfl rfl rfl (by kernel_rfl) Tryz.func5 (by kernel_rfl)
    (of_decide_eq_true (by kernel_rfl)) (by unfold Func.isWrapper; first | (rw [if_pos (by decide +kernel)]; kernel_rfl) | (rw [if_neg (by decide +kernel)]; exact ⟨rfl, rfl⟩))
    (fun os started H enc _ => lifted os started H enc)
theorem proved : Rows.NodeForgetsCardSaid :=
  Claim7.holds_tied_plain_at .later [] [.data, .data, .data] true (true, "20e135add9bda99d5c0783f66bcff6833e8cc7311d672cfa1297f4f7ea971674") false
    over (fun _ h => by cases h) (by kernel_rfl) (fun _ h => by cases h) nodeForgets_row_tie rfl ⟨rfl, rfl⟩ (by kernel_rfl) rfl
    (fun f fn hf hfn => by
      obtain rfl : f = 5 := Option.some.inj ((show Tryz.prog.funcNamed "clepsydra/clepsydralaw23.NodeForgets" = some 5 by kernel_rfl).symm.trans hf) |>.symm
      obtain rfl : fn = Tryz.f5 := (Option.some.inj (Tryz.func5.symm.trans hfn)).symm
      refine ⟨by kernel_rfl, fun j t ht => ?_⟩
      rw [Tryz.params5] at ht
      have hall : ([23, 30, 30, 38, 38] : List TypeId).all (fun t => !(Tryz.prog.wantsStandIn t)) = true := by kernel_rfl
      have hm : t ∈ ([23, 30, 30, 38, 38] : List TypeId) := by simpa using Array.mem_of_getElem? ht
      exact (show Tryz.prog.wantsStandIn t = false by simpa using List.all_eq_true.1 hall t hm))
    (by kernel_rfl)
#print axioms proved
end Go.Proofs.YtdaohldmojpihaaGreatDoor.nodeForgets
namespace Go.Proofs.YtdaohldmojpihaaGreatDoor
/-- The row, under a short name, for the claim. -/
theorem nodeForgets_holds : Rows.NodeForgetsCardSaid := nodeForgets.proved
end Go.Proofs.YtdaohldmojpihaaGreatDoor
