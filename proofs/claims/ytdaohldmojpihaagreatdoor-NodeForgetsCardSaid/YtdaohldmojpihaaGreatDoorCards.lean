/-
  DERIVED. GIVEN WITH THE SEED: THE CARDS: each row of YtdaohldmojpihaaGreatDoorRows.lean that lists a variable, with what it lists TIED to the program's text (the seventh form; the later family's looks); each row that meets fmt, with fmt's text TOLD by the authors' own Lean function (tested against real Go, not proved from fmt's source: count such statements apart). THE CARD IS WHAT COUNTS. Prove the row's statement (the work); the ties are given (YtdaohldmojpihaaGreatDoorTie.lean); close each card by the builder's one call (the guide's Derived/Test/ToyasCard.lean, 'card_holds'). Laid BY PROGRAM, IN A SANDBOX (cutbox-door.mjs). By AI agents, Wed Nov 11 2026. No macro, syntax, notation, axiom, sorry.
-/
import Derived.Test.YtdaohldmojpihaaGreatDoorRows
import GoSem.ClaimSeven
namespace Go.Proofs.YtdaohldmojpihaaGreatDoor
namespace Rows

/-- THE TIED CARD OF 'clepsydralaw23.NodeCore'. -/
def nodeCoreCard : Claim7 := { stood := { row := nodeCoreRow, standIns := [], harness := (true, "20e135add9bda99d5c0783f66bcff6833e8cc7311d672cfa1297f4f7ea971674"), looks := false }, kinds := [], alts := [], laidByText := true, laidKinds := [.data, .data, .data], laidTests := true, laidLooks := .later }
def NodeCoreCardSaid : Prop := Claim7.holds Tryz.pinned (.plain (OpenSpec.ofChange nodeCoreSpec)) nodeCoreCard

/-- THE TIED CARD OF 'clepsydralaw23.NodeFollows'. -/
def nodeFollowsCard : Claim7 := { stood := { row := nodeFollowsRow, standIns := [], harness := (true, "20e135add9bda99d5c0783f66bcff6833e8cc7311d672cfa1297f4f7ea971674"), looks := false }, kinds := [], alts := [], laidByText := true, laidKinds := [.data, .data, .data], laidTests := true, laidLooks := .later }
def NodeFollowsCardSaid : Prop := Claim7.holds Tryz.pinned (.plain (OpenSpec.ofChange nodeFollowsSpec)) nodeFollowsCard

/-- THE TIED CARD OF 'clepsydralaw23.NodeForgets'. -/
def nodeForgetsCard : Claim7 := { stood := { row := nodeForgetsRow, standIns := [], harness := (true, "20e135add9bda99d5c0783f66bcff6833e8cc7311d672cfa1297f4f7ea971674"), looks := false }, kinds := [], alts := [], laidByText := true, laidKinds := [.data, .data, .data], laidTests := true, laidLooks := .later }
def NodeForgetsCardSaid : Prop := Claim7.holds Tryz.pinned (.plain (OpenSpec.ofChange nodeForgetsSpec)) nodeForgetsCard

/-- THE TIED CARD OF 'clepsydralaw23.NodeDoes'. -/
def nodeDoesCard : Claim7 := { stood := { row := nodeDoesRow, standIns := [], harness := (true, "20e135add9bda99d5c0783f66bcff6833e8cc7311d672cfa1297f4f7ea971674"), looks := false }, kinds := [], alts := [], laidByText := true, laidKinds := [.data, .data, .data], laidTests := true, laidLooks := .later }
def NodeDoesCardSaid : Prop := Claim7.holds Tryz.pinned (.plain (OpenSpec.ofChange nodeDoesSpec)) nodeDoesCard

/-- THE TIED CARD OF 'clepsydralaw23.NodeKeeps'. -/
def nodeKeepsCard : Claim7 := { stood := { row := nodeKeepsRow, standIns := [], harness := (true, "20e135add9bda99d5c0783f66bcff6833e8cc7311d672cfa1297f4f7ea971674"), looks := false }, kinds := [], alts := [], laidByText := true, laidKinds := [.data, .data, .data], laidTests := true, laidLooks := .later }
def NodeKeepsCardSaid : Prop := Claim7.holds Tryz.pinned (.plain (OpenSpec.ofChange nodeKeepsSpec)) nodeKeepsCard

/-- THE TIED CARD OF 'clepsydralaw23.NodeStamps'. -/
def nodeStampsCard : Claim7 := { stood := { row := nodeStampsRow, standIns := [], harness := (true, "20e135add9bda99d5c0783f66bcff6833e8cc7311d672cfa1297f4f7ea971674"), looks := false }, kinds := [], alts := [], laidByText := true, laidKinds := [.data, .data, .data], laidTests := true, laidLooks := .later }
def NodeStampsCardSaid : Prop := Claim7.holds Tryz.pinned (.plain (OpenSpec.ofChange nodeStampsSpec)) nodeStampsCard

/-- THE SECOND FORM's CARD OF 'clepsydralaw23.NodeCore'. -/
def nodeCoreUptoCard : Claim7 := { stood := { row := nodeCoreUptoRow, standIns := [], harness := (true, "20e135add9bda99d5c0783f66bcff6833e8cc7311d672cfa1297f4f7ea971674"), looks := false }, kinds := [], alts := [], laidByText := true, laidKinds := [.data, .data, .data], laidTests := true, laidLooks := .later }
def NodeCoreUptoCardSaid : Prop := Claim7.holds Tryz.pinned (.plain (OpenSpec.upto nodeCoreSpec)) nodeCoreUptoCard

/-- THE SECOND FORM's CARD OF 'clepsydralaw23.NodeFollows'. -/
def nodeFollowsUptoCard : Claim7 := { stood := { row := nodeFollowsUptoRow, standIns := [], harness := (true, "20e135add9bda99d5c0783f66bcff6833e8cc7311d672cfa1297f4f7ea971674"), looks := false }, kinds := [], alts := [], laidByText := true, laidKinds := [.data, .data, .data], laidTests := true, laidLooks := .later }
def NodeFollowsUptoCardSaid : Prop := Claim7.holds Tryz.pinned (.plain (OpenSpec.upto nodeFollowsSpec)) nodeFollowsUptoCard

/-- THE SECOND FORM's CARD OF 'clepsydralaw23.NodeForgets'. -/
def nodeForgetsUptoCard : Claim7 := { stood := { row := nodeForgetsUptoRow, standIns := [], harness := (true, "20e135add9bda99d5c0783f66bcff6833e8cc7311d672cfa1297f4f7ea971674"), looks := false }, kinds := [], alts := [], laidByText := true, laidKinds := [.data, .data, .data], laidTests := true, laidLooks := .later }
def NodeForgetsUptoCardSaid : Prop := Claim7.holds Tryz.pinned (.plain (OpenSpec.upto nodeForgetsSpec)) nodeForgetsUptoCard

/-- THE SECOND FORM's CARD OF 'clepsydralaw23.NodeDoes'. -/
def nodeDoesUptoCard : Claim7 := { stood := { row := nodeDoesUptoRow, standIns := [], harness := (true, "20e135add9bda99d5c0783f66bcff6833e8cc7311d672cfa1297f4f7ea971674"), looks := false }, kinds := [], alts := [], laidByText := true, laidKinds := [.data, .data, .data], laidTests := true, laidLooks := .later }
def NodeDoesUptoCardSaid : Prop := Claim7.holds Tryz.pinned (.plain (OpenSpec.upto nodeDoesSpec)) nodeDoesUptoCard

/-- THE SECOND FORM's CARD OF 'clepsydralaw23.NodeKeeps'. -/
def nodeKeepsUptoCard : Claim7 := { stood := { row := nodeKeepsUptoRow, standIns := [], harness := (true, "20e135add9bda99d5c0783f66bcff6833e8cc7311d672cfa1297f4f7ea971674"), looks := false }, kinds := [], alts := [], laidByText := true, laidKinds := [.data, .data, .data], laidTests := true, laidLooks := .later }
def NodeKeepsUptoCardSaid : Prop := Claim7.holds Tryz.pinned (.plain (OpenSpec.upto nodeKeepsSpec)) nodeKeepsUptoCard

/-- THE SECOND FORM's CARD OF 'clepsydralaw23.NodeStamps'. -/
def nodeStampsUptoCard : Claim7 := { stood := { row := nodeStampsUptoRow, standIns := [], harness := (true, "20e135add9bda99d5c0783f66bcff6833e8cc7311d672cfa1297f4f7ea971674"), looks := false }, kinds := [], alts := [], laidByText := true, laidKinds := [.data, .data, .data], laidTests := true, laidLooks := .later }
def NodeStampsUptoCardSaid : Prop := Claim7.holds Tryz.pinned (.plain (OpenSpec.upto nodeStampsSpec)) nodeStampsUptoCard
end Rows
end Go.Proofs.YtdaohldmojpihaaGreatDoor
