/-
  No cell of these rows narrows 'for every input' (looked for: loops, veiled, ifaces, maps, wideKeys, modest, calm, conditions, laid).
  DERIVED. THE GIVEN ROWS OF THIS SEAT. 8 by the template 'for every input the law returns true; each argument reads behind the call as it read before'; 0 by the template 'total and deterministic' (their statements: YtcopnddmkmgihaaTotals.lean).
  GIVEN WITH THE SEED: the statements are not yours to turn. If you find one false, say at which input.
  Laid BY PROGRAM, IN A SANDBOX (cutbox-rows.mjs): the forced cells as the released guide's own fill.sh prints them over the translation 44b72bb7228cddfa… (all of the seat's roots in one cut). By AI agents, Wed Nov 11 2026. No macro, syntax, notation, axiom, sorry.
-/
import Derived.Test.YtcopnddmkmgihaaChecked
import GoSem.Claim
import GoSem.ClaimJoined
import GoSem.ClaimMapViews
import Derived.JoinedTies
import Derived.KernelRfl
namespace Go.Proofs.Ytcopnddmkmgihaa
/- THE CELL 'sum', in the pinned program and in every row, IS THE sha256 OF THE DUMP (.gsa) THAT YtcopnddmkmgihaaProg.lean LOADS. Nothing in Lean hashes anything: it is a label: what it is worth is what the hold of that sum in a sandbox is worth. -/
noncomputable def Try.pinned : Pinned := { name := "ytcopnddmkmgihaa", sum := "44b72bb7228cddfa28d402ee2a2ab942195da7ce022faf08b830c23769f0563b", checked := Try.checked }
namespace Rows
def none {H : Type} : Left H := { results := [], args := [] }

/-- 'clepsydralaw09.AlarmOnce': WHATEVER THE INPUT: true; the input reads as it did. -/
def alarmOnceSpec : ChangeSpec := { name := "alarmOnce", fn := fun _ => fun
  | [d1, d2] => { results := [.lit (.bool true)], args := [d1, d2] }
  | _ => none }
def alarmOnceRow : OpenClaim := { program := "ytcopnddmkmgihaa", sum := "44b72bb7228cddfa28d402ee2a2ab942195da7ce022faf08b830c23769f0563b", func := "clepsydra/clepsydralaw09.AlarmOnce", spec := "alarmOnce", inPlace := ["slices.overlaps[clepsydra/alarm.timer]"], unfollowed := true, recurses := true, apart := false }
def AlarmOnceSaid : Prop := alarmOnceRow.holds Try.pinned (OpenSpec.ofChange alarmOnceSpec)

/-- ITS FALSE NEIGHBOUR: 'it returns false'. Refute it at one input. -/
def alarmOnceWrong : ChangeSpec := { name := "alarmOnce", fn := fun _ => fun
  | [d1, d2] => { results := [.lit (.bool false)], args := [d1, d2] }
  | _ => none }
def AlarmOnceWrongFalsely : Prop := alarmOnceRow.holds Try.pinned (OpenSpec.ofChange alarmOnceWrong)

/-- 'clepsydralaw09.AlarmParts': WHATEVER THE INPUT: true; the input reads as it did. -/
def alarmPartsSpec : ChangeSpec := { name := "alarmParts", fn := fun _ => fun
  | [d1, d2, d3] => { results := [.lit (.bool true)], args := [d1, d2, d3] }
  | _ => none }
def alarmPartsRow : OpenClaim := { program := "ytcopnddmkmgihaa", sum := "44b72bb7228cddfa28d402ee2a2ab942195da7ce022faf08b830c23769f0563b", func := "clepsydra/clepsydralaw09.AlarmParts", spec := "alarmParts", inPlace := ["slices.overlaps[clepsydra/alarm.timer]"], unfollowed := true, recurses := true, apart := false }
def AlarmPartsSaid : Prop := alarmPartsRow.holds Try.pinned (OpenSpec.ofChange alarmPartsSpec)

/-- ITS FALSE NEIGHBOUR: 'it returns false'. Refute it at one input. -/
def alarmPartsWrong : ChangeSpec := { name := "alarmParts", fn := fun _ => fun
  | [d1, d2, d3] => { results := [.lit (.bool false)], args := [d1, d2, d3] }
  | _ => none }
def AlarmPartsWrongFalsely : Prop := alarmPartsRow.holds Try.pinned (OpenSpec.ofChange alarmPartsWrong)

/-- 'clepsydralaw09.AlarmRoom': WHATEVER THE INPUT: true; the input reads as it did. -/
def alarmRoomSpec : ChangeSpec := { name := "alarmRoom", fn := fun _ => fun
  | [d1, d2] => { results := [.lit (.bool true)], args := [d1, d2] }
  | _ => none }
def alarmRoomRow : OpenClaim := { program := "ytcopnddmkmgihaa", sum := "44b72bb7228cddfa28d402ee2a2ab942195da7ce022faf08b830c23769f0563b", func := "clepsydra/clepsydralaw09.AlarmRoom", spec := "alarmRoom", inPlace := ["slices.overlaps[clepsydra/alarm.timer]"], unfollowed := true, recurses := true, apart := false }
def AlarmRoomSaid : Prop := alarmRoomRow.holds Try.pinned (OpenSpec.ofChange alarmRoomSpec)

/-- ITS FALSE NEIGHBOUR: 'it returns false'. Refute it at one input. -/
def alarmRoomWrong : ChangeSpec := { name := "alarmRoom", fn := fun _ => fun
  | [d1, d2] => { results := [.lit (.bool false)], args := [d1, d2] }
  | _ => none }
def AlarmRoomWrongFalsely : Prop := alarmRoomRow.holds Try.pinned (OpenSpec.ofChange alarmRoomWrong)

/-- 'clepsydralaw09.AlarmDoes': WHATEVER THE INPUT: true; the input reads as it did. -/
def alarmDoesSpec : ChangeSpec := { name := "alarmDoes", fn := fun _ => fun
  | [d] => { results := [.lit (.bool true)], args := [d] }
  | _ => none }
def alarmDoesRow : OpenClaim := { program := "ytcopnddmkmgihaa", sum := "44b72bb7228cddfa28d402ee2a2ab942195da7ce022faf08b830c23769f0563b", func := "clepsydra/clepsydralaw09.AlarmDoes", spec := "alarmDoes", inPlace := ["slices.overlaps[clepsydra/alarm.timer]"], unfollowed := true, recurses := true, apart := false }
def AlarmDoesSaid : Prop := alarmDoesRow.holds Try.pinned (OpenSpec.ofChange alarmDoesSpec)

/-- ITS FALSE NEIGHBOUR: 'it returns false'. Refute it at one input. -/
def alarmDoesWrong : ChangeSpec := { name := "alarmDoes", fn := fun _ => fun
  | [d] => { results := [.lit (.bool false)], args := [d] }
  | _ => none }
def AlarmDoesWrongFalsely : Prop := alarmDoesRow.holds Try.pinned (OpenSpec.ofChange alarmDoesWrong)

/-- 'clepsydralaw14.MemberDoes': WHATEVER THE INPUT: true; the input reads as it did. -/
def memberDoesSpec : ChangeSpec := { name := "memberDoes", fn := fun _ => fun
  | [d] => { results := [.lit (.bool true)], args := [d] }
  | _ => none }
def memberDoesRow : OpenClaim := { program := "ytcopnddmkmgihaa", sum := "44b72bb7228cddfa28d402ee2a2ab942195da7ce022faf08b830c23769f0563b", func := "clepsydra/clepsydralaw14.MemberDoes", spec := "memberDoes", unfollowed := true, recurses := true, apart := false }
def MemberDoesSaid : Prop := memberDoesRow.holds Try.pinned (OpenSpec.ofChange memberDoesSpec)

/-- ITS FALSE NEIGHBOUR: 'it returns false'. Refute it at one input. -/
def memberDoesWrong : ChangeSpec := { name := "memberDoes", fn := fun _ => fun
  | [d] => { results := [.lit (.bool false)], args := [d] }
  | _ => none }
def MemberDoesWrongFalsely : Prop := memberDoesRow.holds Try.pinned (OpenSpec.ofChange memberDoesWrong)

/-- 'clepsydralaw14.MemberAges': WHATEVER THE INPUT: true; the input reads as it did. -/
def memberAgesSpec : ChangeSpec := { name := "memberAges", fn := fun _ => fun
  | [d1, d2, d3, d4] => { results := [.lit (.bool true)], args := [d1, d2, d3, d4] }
  | _ => none }
def memberAgesRow : OpenClaim := { program := "ytcopnddmkmgihaa", sum := "44b72bb7228cddfa28d402ee2a2ab942195da7ce022faf08b830c23769f0563b", func := "clepsydra/clepsydralaw14.MemberAges", spec := "memberAges", unfollowed := true, recurses := true, apart := false }
def MemberAgesSaid : Prop := memberAgesRow.holds Try.pinned (OpenSpec.ofChange memberAgesSpec)

/-- ITS FALSE NEIGHBOUR: 'it returns false'. Refute it at one input. -/
def memberAgesWrong : ChangeSpec := { name := "memberAges", fn := fun _ => fun
  | [d1, d2, d3, d4] => { results := [.lit (.bool false)], args := [d1, d2, d3, d4] }
  | _ => none }
def MemberAgesWrongFalsely : Prop := memberAgesRow.holds Try.pinned (OpenSpec.ofChange memberAgesWrong)

/-- 'clepsydralaw14.MemberRoom': WHATEVER THE INPUT: true; the input reads as it did. -/
def memberRoomSpec : ChangeSpec := { name := "memberRoom", fn := fun _ => fun
  | [d1, d2] => { results := [.lit (.bool true)], args := [d1, d2] }
  | _ => none }
def memberRoomRow : OpenClaim := { program := "ytcopnddmkmgihaa", sum := "44b72bb7228cddfa28d402ee2a2ab942195da7ce022faf08b830c23769f0563b", func := "clepsydra/clepsydralaw14.MemberRoom", spec := "memberRoom", unfollowed := true, recurses := true, apart := false }
def MemberRoomSaid : Prop := memberRoomRow.holds Try.pinned (OpenSpec.ofChange memberRoomSpec)

/-- ITS FALSE NEIGHBOUR: 'it returns false'. Refute it at one input. -/
def memberRoomWrong : ChangeSpec := { name := "memberRoom", fn := fun _ => fun
  | [d1, d2] => { results := [.lit (.bool false)], args := [d1, d2] }
  | _ => none }
def MemberRoomWrongFalsely : Prop := memberRoomRow.holds Try.pinned (OpenSpec.ofChange memberRoomWrong)

/-- 'clepsydralaw14.MemberFew': WHATEVER THE INPUT: true; the input reads as it did. -/
def memberFewSpec : ChangeSpec := { name := "memberFew", fn := fun _ => fun
  | [d] => { results := [.lit (.bool true)], args := [d] }
  | _ => none }
def memberFewRow : OpenClaim := { program := "ytcopnddmkmgihaa", sum := "44b72bb7228cddfa28d402ee2a2ab942195da7ce022faf08b830c23769f0563b", func := "clepsydra/clepsydralaw14.MemberFew", spec := "memberFew", unfollowed := true, recurses := true, apart := false }
def MemberFewSaid : Prop := memberFewRow.holds Try.pinned (OpenSpec.ofChange memberFewSpec)

/-- ITS FALSE NEIGHBOUR: 'it returns false'. Refute it at one input. -/
def memberFewWrong : ChangeSpec := { name := "memberFew", fn := fun _ => fun
  | [d] => { results := [.lit (.bool false)], args := [d] }
  | _ => none }
def MemberFewWrongFalsely : Prop := memberFewRow.holds Try.pinned (OpenSpec.ofChange memberFewWrong)

/- THE SECOND FORM. 'bulk': how many values and letters a reading holds, each counted each time it is reached (what is shared counts as often as it is met; a slice's spare places count too). A statement '..UptoSaid' is the law's where the arguments, and the package variables that the reading takes, are together of bulk at most 1048576: NARROWER than '..Said'. Prove '..Said' where nothing that the law and all that it calls make is longer than what came in: it says more and counts as full. Else prove '..UptoSaid'. A law counts once. -/
mutual
def uptoBulk {H : Type} : DataW H → Nat
  | .lit (.string bytes) => bytes.length + 1
  | .lit _ => 1
  | .nil => 1
  | .ptr d => uptoBulk d + 1
  | .slice elems spare => uptoBulkAll elems + uptoBulkAll spare + 1
  | .agg parts => uptoBulkAll parts + 1
  | .iface _ d => uptoBulk d + 1
  | .map entries => uptoBulkEntries entries + 1
  | .held _ => 1
def uptoBulkAll {H : Type} : List (DataW H) → Nat
  | [] => 0
  | d :: r => uptoBulk d + uptoBulkAll r
def uptoBulkEntries {H : Type} : List (Lit × DataW H) → Nat
  | [] => 0
  | x :: r => uptoBulkEntry x + uptoBulkEntries r
def uptoBulkEntry {H : Type} : Lit × DataW H → Nat
  | (.string bytes, d) => bytes.length + uptoBulk d + 1
  | (_, d) => uptoBulk d + 1
 end
def uptoSmall : (H : Type) → List (DataW H) → Bool := fun _ ds => decide (uptoBulkAll ds ≤ 1048576)
def OpenSpec.upto (s : _root_.Go.ChangeSpec) : _root_.Go.OpenSpec := { _root_.Go.OpenSpec.ofChange s with cond := some uptoSmall }

/-- 'clepsydralaw09.AlarmOnce', WHERE WHAT IT READS IS OF BULK AT MOST 1048576: true; the input reads as it did. -/
def alarmOnceUptoRow : OpenClaim := { program := "ytcopnddmkmgihaa", sum := "44b72bb7228cddfa28d402ee2a2ab942195da7ce022faf08b830c23769f0563b", func := "clepsydra/clepsydralaw09.AlarmOnce", spec := "alarmOnce", inPlace := ["slices.overlaps[clepsydra/alarm.timer]"], unfollowed := true, recurses := true, apart := false, narrowed := true }
def AlarmOnceUptoSaid : Prop := alarmOnceUptoRow.holds Try.pinned (OpenSpec.upto alarmOnceSpec)

/-- 'clepsydralaw09.AlarmParts', WHERE WHAT IT READS IS OF BULK AT MOST 1048576: true; the input reads as it did. -/
def alarmPartsUptoRow : OpenClaim := { program := "ytcopnddmkmgihaa", sum := "44b72bb7228cddfa28d402ee2a2ab942195da7ce022faf08b830c23769f0563b", func := "clepsydra/clepsydralaw09.AlarmParts", spec := "alarmParts", inPlace := ["slices.overlaps[clepsydra/alarm.timer]"], unfollowed := true, recurses := true, apart := false, narrowed := true }
def AlarmPartsUptoSaid : Prop := alarmPartsUptoRow.holds Try.pinned (OpenSpec.upto alarmPartsSpec)

/-- 'clepsydralaw09.AlarmRoom', WHERE WHAT IT READS IS OF BULK AT MOST 1048576: true; the input reads as it did. -/
def alarmRoomUptoRow : OpenClaim := { program := "ytcopnddmkmgihaa", sum := "44b72bb7228cddfa28d402ee2a2ab942195da7ce022faf08b830c23769f0563b", func := "clepsydra/clepsydralaw09.AlarmRoom", spec := "alarmRoom", inPlace := ["slices.overlaps[clepsydra/alarm.timer]"], unfollowed := true, recurses := true, apart := false, narrowed := true }
def AlarmRoomUptoSaid : Prop := alarmRoomUptoRow.holds Try.pinned (OpenSpec.upto alarmRoomSpec)

/-- 'clepsydralaw09.AlarmDoes', WHERE WHAT IT READS IS OF BULK AT MOST 1048576: true; the input reads as it did. -/
def alarmDoesUptoRow : OpenClaim := { program := "ytcopnddmkmgihaa", sum := "44b72bb7228cddfa28d402ee2a2ab942195da7ce022faf08b830c23769f0563b", func := "clepsydra/clepsydralaw09.AlarmDoes", spec := "alarmDoes", inPlace := ["slices.overlaps[clepsydra/alarm.timer]"], unfollowed := true, recurses := true, apart := false, narrowed := true }
def AlarmDoesUptoSaid : Prop := alarmDoesUptoRow.holds Try.pinned (OpenSpec.upto alarmDoesSpec)

/-- 'clepsydralaw14.MemberDoes', WHERE WHAT IT READS IS OF BULK AT MOST 1048576: true; the input reads as it did. -/
def memberDoesUptoRow : OpenClaim := { program := "ytcopnddmkmgihaa", sum := "44b72bb7228cddfa28d402ee2a2ab942195da7ce022faf08b830c23769f0563b", func := "clepsydra/clepsydralaw14.MemberDoes", spec := "memberDoes", unfollowed := true, recurses := true, apart := false, narrowed := true }
def MemberDoesUptoSaid : Prop := memberDoesUptoRow.holds Try.pinned (OpenSpec.upto memberDoesSpec)

/-- 'clepsydralaw14.MemberAges', WHERE WHAT IT READS IS OF BULK AT MOST 1048576: true; the input reads as it did. -/
def memberAgesUptoRow : OpenClaim := { program := "ytcopnddmkmgihaa", sum := "44b72bb7228cddfa28d402ee2a2ab942195da7ce022faf08b830c23769f0563b", func := "clepsydra/clepsydralaw14.MemberAges", spec := "memberAges", unfollowed := true, recurses := true, apart := false, narrowed := true }
def MemberAgesUptoSaid : Prop := memberAgesUptoRow.holds Try.pinned (OpenSpec.upto memberAgesSpec)

/-- 'clepsydralaw14.MemberRoom', WHERE WHAT IT READS IS OF BULK AT MOST 1048576: true; the input reads as it did. -/
def memberRoomUptoRow : OpenClaim := { program := "ytcopnddmkmgihaa", sum := "44b72bb7228cddfa28d402ee2a2ab942195da7ce022faf08b830c23769f0563b", func := "clepsydra/clepsydralaw14.MemberRoom", spec := "memberRoom", unfollowed := true, recurses := true, apart := false, narrowed := true }
def MemberRoomUptoSaid : Prop := memberRoomUptoRow.holds Try.pinned (OpenSpec.upto memberRoomSpec)

/-- 'clepsydralaw14.MemberFew', WHERE WHAT IT READS IS OF BULK AT MOST 1048576: true; the input reads as it did. -/
def memberFewUptoRow : OpenClaim := { program := "ytcopnddmkmgihaa", sum := "44b72bb7228cddfa28d402ee2a2ab942195da7ce022faf08b830c23769f0563b", func := "clepsydra/clepsydralaw14.MemberFew", spec := "memberFew", unfollowed := true, recurses := true, apart := false, narrowed := true }
def MemberFewUptoSaid : Prop := memberFewUptoRow.holds Try.pinned (OpenSpec.upto memberFewSpec)

end Rows
end Go.Proofs.Ytcopnddmkmgihaa
