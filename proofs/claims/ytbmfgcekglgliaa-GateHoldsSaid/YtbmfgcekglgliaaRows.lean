/-
  No cell of these rows narrows 'for every input' (looked for: loops, veiled, ifaces, maps, wideKeys, modest, calm, conditions, laid).
  DERIVED. THE GIVEN ROWS OF THIS SEAT. 3 by the template 'for every input the law returns true; each argument reads behind the call as it read before'; 0 by the template 'total and deterministic' (their statements: YtbmfgcekglgliaaTotals.lean).
  GIVEN WITH THE SEED: the statements are not yours to turn. If you find one false, say at which input.
  Laid BY PROGRAM, IN A SANDBOX (cutbox-rows.mjs): the forced cells as the released guide's own fill.sh prints them over the translation 43441fa1bda48209… (all of the seat's roots in one cut). By AI agents, Wed Nov 11 2026. No macro, syntax, notation, axiom, sorry.
-/
import Derived.Test.YtbmfgcekglgliaaChecked
import GoSem.Claim
import GoSem.ClaimJoined
import GoSem.ClaimMapViews
import Derived.JoinedTies
import Derived.KernelRfl
namespace Go.Proofs.Ytbmfgcekglgliaa
/- THE CELL 'sum', in the pinned program and in every row, IS THE sha256 OF THE DUMP (.gsa) THAT YtbmfgcekglgliaaProg.lean LOADS. Nothing in Lean hashes anything: it is a label: what it is worth is what the hold of that sum in a sandbox is worth. -/
noncomputable def Try.pinned : Pinned := { name := "ytbmfgcekglgliaa", sum := "43441fa1bda4820946e6acc3c43b815078de19a0955c03c2844ce3ec3308d370", checked := Try.checked }
namespace Rows
def none {H : Type} : Left H := { results := [], args := [] }

/-- 'clepsydralaw22.GateHolds': WHATEVER THE INPUT: true; the input reads as it did. -/
def gateHoldsSpec : ChangeSpec := { name := "gateHolds", fn := fun _ => fun
  | [d1, d2, d3, d4, d5, d6] => { results := [.lit (.bool true)], args := [d1, d2, d3, d4, d5, d6] }
  | _ => none }
def gateHoldsRow : OpenClaim := { program := "ytbmfgcekglgliaa", sum := "43441fa1bda4820946e6acc3c43b815078de19a0955c03c2844ce3ec3308d370", func := "clepsydra/clepsydralaw22.GateHolds", spec := "gateHolds", unfollowed := true, recurses := true, apart := false }
def GateHoldsSaid : Prop := gateHoldsRow.holds Try.pinned (OpenSpec.ofChange gateHoldsSpec)

/-- ITS FALSE NEIGHBOUR: 'it returns false'. Refute it at one input. -/
def gateHoldsWrong : ChangeSpec := { name := "gateHolds", fn := fun _ => fun
  | [d1, d2, d3, d4, d5, d6] => { results := [.lit (.bool false)], args := [d1, d2, d3, d4, d5, d6] }
  | _ => none }
def GateHoldsWrongFalsely : Prop := gateHoldsRow.holds Try.pinned (OpenSpec.ofChange gateHoldsWrong)

/-- 'clepsydralaw22.GateWaits': WHATEVER THE INPUT: true; the input reads as it did. -/
def gateWaitsSpec : ChangeSpec := { name := "gateWaits", fn := fun _ => fun
  | [d1, d2, d3, d4, d5] => { results := [.lit (.bool true)], args := [d1, d2, d3, d4, d5] }
  | _ => none }
def gateWaitsRow : OpenClaim := { program := "ytbmfgcekglgliaa", sum := "43441fa1bda4820946e6acc3c43b815078de19a0955c03c2844ce3ec3308d370", func := "clepsydra/clepsydralaw22.GateWaits", spec := "gateWaits", unfollowed := true, recurses := true, apart := false }
def GateWaitsSaid : Prop := gateWaitsRow.holds Try.pinned (OpenSpec.ofChange gateWaitsSpec)

/-- ITS FALSE NEIGHBOUR: 'it returns false'. Refute it at one input. -/
def gateWaitsWrong : ChangeSpec := { name := "gateWaits", fn := fun _ => fun
  | [d1, d2, d3, d4, d5] => { results := [.lit (.bool false)], args := [d1, d2, d3, d4, d5] }
  | _ => none }
def GateWaitsWrongFalsely : Prop := gateWaitsRow.holds Try.pinned (OpenSpec.ofChange gateWaitsWrong)

/-- 'clepsydralaw22.GateForgets': WHATEVER THE INPUT: true; the input reads as it did. -/
def gateForgetsSpec : ChangeSpec := { name := "gateForgets", fn := fun _ => fun
  | [d1, d2, d3, d4] => { results := [.lit (.bool true)], args := [d1, d2, d3, d4] }
  | _ => none }
def gateForgetsRow : OpenClaim := { program := "ytbmfgcekglgliaa", sum := "43441fa1bda4820946e6acc3c43b815078de19a0955c03c2844ce3ec3308d370", func := "clepsydra/clepsydralaw22.GateForgets", spec := "gateForgets", unfollowed := true, recurses := true, apart := false }
def GateForgetsSaid : Prop := gateForgetsRow.holds Try.pinned (OpenSpec.ofChange gateForgetsSpec)

/-- ITS FALSE NEIGHBOUR: 'it returns false'. Refute it at one input. -/
def gateForgetsWrong : ChangeSpec := { name := "gateForgets", fn := fun _ => fun
  | [d1, d2, d3, d4] => { results := [.lit (.bool false)], args := [d1, d2, d3, d4] }
  | _ => none }
def GateForgetsWrongFalsely : Prop := gateForgetsRow.holds Try.pinned (OpenSpec.ofChange gateForgetsWrong)

/- THE SECOND FORM. 'bulk': how many values and letters a reading holds, each counted each time it is reached (what is shared counts as often as it is met; a slice's spare places count too). A statement '..UptoSaid' is the law's where the arguments, and the package variables that the reading takes, are together of bulk at most 1048576: NARROWER than '..Said'. Prove '..Said' where nothing that the law and all that it calls make is longer than what came in: it says more and counts as full. Else prove '..UptoSaid'. A law counts once. -/
mutual
def uptoBulk {H : Type} : DataW H → Nat
  | .lit (.string bytes) => bytes.length + 1
  | .lit _ => 1
  | .nil => 1
  | .ptr d => uptoBulk d + 1
  | .slice elems spare => uptoBulkAll elems + uptoBulkAll spare + 1
  | .agg parts => uptoBulkAll parts + 1
  | .iface _ d => uptoBulk d + 1
  | .map entries => uptoBulkEntries entries + 1
  | .held _ => 1
def uptoBulkAll {H : Type} : List (DataW H) → Nat
  | [] => 0
  | d :: r => uptoBulk d + uptoBulkAll r
def uptoBulkEntries {H : Type} : List (Lit × DataW H) → Nat
  | [] => 0
  | x :: r => uptoBulkEntry x + uptoBulkEntries r
def uptoBulkEntry {H : Type} : Lit × DataW H → Nat
  | (.string bytes, d) => bytes.length + uptoBulk d + 1
  | (_, d) => uptoBulk d + 1
 end
def uptoSmall : (H : Type) → List (DataW H) → Bool := fun _ ds => decide (uptoBulkAll ds ≤ 1048576)
def OpenSpec.upto (s : _root_.Go.ChangeSpec) : _root_.Go.OpenSpec := { _root_.Go.OpenSpec.ofChange s with cond := some uptoSmall }

/-- 'clepsydralaw22.GateHolds', WHERE WHAT IT READS IS OF BULK AT MOST 1048576: true; the input reads as it did. -/
def gateHoldsUptoRow : OpenClaim := { program := "ytbmfgcekglgliaa", sum := "43441fa1bda4820946e6acc3c43b815078de19a0955c03c2844ce3ec3308d370", func := "clepsydra/clepsydralaw22.GateHolds", spec := "gateHolds", unfollowed := true, recurses := true, apart := false, narrowed := true }
def GateHoldsUptoSaid : Prop := gateHoldsUptoRow.holds Try.pinned (OpenSpec.upto gateHoldsSpec)

/-- 'clepsydralaw22.GateWaits', WHERE WHAT IT READS IS OF BULK AT MOST 1048576: true; the input reads as it did. -/
def gateWaitsUptoRow : OpenClaim := { program := "ytbmfgcekglgliaa", sum := "43441fa1bda4820946e6acc3c43b815078de19a0955c03c2844ce3ec3308d370", func := "clepsydra/clepsydralaw22.GateWaits", spec := "gateWaits", unfollowed := true, recurses := true, apart := false, narrowed := true }
def GateWaitsUptoSaid : Prop := gateWaitsUptoRow.holds Try.pinned (OpenSpec.upto gateWaitsSpec)

/-- 'clepsydralaw22.GateForgets', WHERE WHAT IT READS IS OF BULK AT MOST 1048576: true; the input reads as it did. -/
def gateForgetsUptoRow : OpenClaim := { program := "ytbmfgcekglgliaa", sum := "43441fa1bda4820946e6acc3c43b815078de19a0955c03c2844ce3ec3308d370", func := "clepsydra/clepsydralaw22.GateForgets", spec := "gateForgets", unfollowed := true, recurses := true, apart := false, narrowed := true }
def GateForgetsUptoSaid : Prop := gateForgetsUptoRow.holds Try.pinned (OpenSpec.upto gateForgetsSpec)

end Rows
end Go.Proofs.Ytbmfgcekglgliaa
