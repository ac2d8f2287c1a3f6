/-
  DERIVED. GIVEN WITH THE SEED: THE CARDS: each row of YtdabedknidkimaaDoorRows.lean that lists a variable, with what it lists TIED to the program's text (the seventh form; the later family's looks); each row that meets fmt, with fmt's text TOLD by the authors' own Lean function (tested against real Go, not proved from fmt's source: count such statements apart). THE CARD IS WHAT COUNTS. Prove the row's statement (the work); the ties are given (YtdabedknidkimaaDoorTie.lean); close each card by the builder's one call (the guide's Derived/Test/ToyasCard.lean, 'card_holds'). Laid BY PROGRAM, IN A SANDBOX (cutbox-door.mjs). By AI agents, Wed Nov 11 2026. No macro, syntax, notation, axiom, sorry.
-/
import Derived.Test.YtdabedknidkimaaDoorRows
import GoSem.ClaimSeven
namespace Go.Proofs.YtdabedknidkimaaDoor
namespace Rows

/-- THE TIED CARD OF 'clepsydralaw19.VoteKeys'. -/
def voteKeysCard : Claim7 := { stood := { row := voteKeysRow, standIns := [], harness := (true, "b215c2af5cb720aa96cc257b8456d1c8582a080b5fdb831fd6249f9850f53e91"), looks := false }, kinds := [], alts := [], laidByText := true, laidKinds := [.data, .data, .data], laidTests := true, laidLooks := .later }
def VoteKeysCardSaid : Prop := Claim7.holds Tryd.pinned (.plain (OpenSpec.ofChange voteKeysSpec)) voteKeysCard

/-- THE TIED CARD OF 'clepsydralaw19.VoteAdopts'. -/
def voteAdoptsCard : Claim7 := { stood := { row := voteAdoptsRow, standIns := [], harness := (true, "b215c2af5cb720aa96cc257b8456d1c8582a080b5fdb831fd6249f9850f53e91"), looks := false }, kinds := [], alts := [], laidByText := true, laidKinds := [.data, .data, .data], laidTests := true, laidLooks := .later }
def VoteAdoptsCardSaid : Prop := Claim7.holds Tryd.pinned (.plain (OpenSpec.ofChange voteAdoptsSpec)) voteAdoptsCard

/-- THE TIED CARD OF 'clepsydralaw19.VoteHolds'. -/
def voteHoldsCard : Claim7 := { stood := { row := voteHoldsRow, standIns := [], harness := (true, "b215c2af5cb720aa96cc257b8456d1c8582a080b5fdb831fd6249f9850f53e91"), looks := false }, kinds := [], alts := [], laidByText := true, laidKinds := [.data, .data, .data], laidTests := true, laidLooks := .later }
def VoteHoldsCardSaid : Prop := Claim7.holds Tryd.pinned (.plain (OpenSpec.ofChange voteHoldsSpec)) voteHoldsCard

/-- THE TIED CARD OF 'clepsydralaw19.VoteKeeps'. -/
def voteKeepsCard : Claim7 := { stood := { row := voteKeepsRow, standIns := [], harness := (true, "b215c2af5cb720aa96cc257b8456d1c8582a080b5fdb831fd6249f9850f53e91"), looks := false }, kinds := [], alts := [], laidByText := true, laidKinds := [.data, .data, .data], laidTests := true, laidLooks := .later }
def VoteKeepsCardSaid : Prop := Claim7.holds Tryd.pinned (.plain (OpenSpec.ofChange voteKeepsSpec)) voteKeepsCard

/-- THE TIED CARD OF 'clepsydralaw19.VoteFew'. -/
def voteFewCard : Claim7 := { stood := { row := voteFewRow, standIns := [], harness := (true, "b215c2af5cb720aa96cc257b8456d1c8582a080b5fdb831fd6249f9850f53e91"), looks := false }, kinds := [], alts := [], laidByText := true, laidKinds := [.data, .data, .data], laidTests := true, laidLooks := .later }
def VoteFewCardSaid : Prop := Claim7.holds Tryd.pinned (.plain (OpenSpec.ofChange voteFewSpec)) voteFewCard

/-- THE SECOND FORM's CARD OF 'clepsydralaw19.VoteKeys'. -/
def voteKeysUptoCard : Claim7 := { stood := { row := voteKeysUptoRow, standIns := [], harness := (true, "b215c2af5cb720aa96cc257b8456d1c8582a080b5fdb831fd6249f9850f53e91"), looks := false }, kinds := [], alts := [], laidByText := true, laidKinds := [.data, .data, .data], laidTests := true, laidLooks := .later }
def VoteKeysUptoCardSaid : Prop := Claim7.holds Tryd.pinned (.plain (OpenSpec.upto voteKeysSpec)) voteKeysUptoCard

/-- THE SECOND FORM's CARD OF 'clepsydralaw19.VoteAdopts'. -/
def voteAdoptsUptoCard : Claim7 := { stood := { row := voteAdoptsUptoRow, standIns := [], harness := (true, "b215c2af5cb720aa96cc257b8456d1c8582a080b5fdb831fd6249f9850f53e91"), looks := false }, kinds := [], alts := [], laidByText := true, laidKinds := [.data, .data, .data], laidTests := true, laidLooks := .later }
def VoteAdoptsUptoCardSaid : Prop := Claim7.holds Tryd.pinned (.plain (OpenSpec.upto voteAdoptsSpec)) voteAdoptsUptoCard

/-- THE SECOND FORM's CARD OF 'clepsydralaw19.VoteHolds'. -/
def voteHoldsUptoCard : Claim7 := { stood := { row := voteHoldsUptoRow, standIns := [], harness := (true, "b215c2af5cb720aa96cc257b8456d1c8582a080b5fdb831fd6249f9850f53e91"), looks := false }, kinds := [], alts := [], laidByText := true, laidKinds := [.data, .data, .data], laidTests := true, laidLooks := .later }
def VoteHoldsUptoCardSaid : Prop := Claim7.holds Tryd.pinned (.plain (OpenSpec.upto voteHoldsSpec)) voteHoldsUptoCard

/-- THE SECOND FORM's CARD OF 'clepsydralaw19.VoteKeeps'. -/
def voteKeepsUptoCard : Claim7 := { stood := { row := voteKeepsUptoRow, standIns := [], harness := (true, "b215c2af5cb720aa96cc257b8456d1c8582a080b5fdb831fd6249f9850f53e91"), looks := false }, kinds := [], alts := [], laidByText := true, laidKinds := [.data, .data, .data], laidTests := true, laidLooks := .later }
def VoteKeepsUptoCardSaid : Prop := Claim7.holds Tryd.pinned (.plain (OpenSpec.upto voteKeepsSpec)) voteKeepsUptoCard

/-- THE SECOND FORM's CARD OF 'clepsydralaw19.VoteFew'. -/
def voteFewUptoCard : Claim7 := { stood := { row := voteFewUptoRow, standIns := [], harness := (true, "b215c2af5cb720aa96cc257b8456d1c8582a080b5fdb831fd6249f9850f53e91"), looks := false }, kinds := [], alts := [], laidByText := true, laidKinds := [.data, .data, .data], laidTests := true, laidLooks := .later }
def VoteFewUptoCardSaid : Prop := Claim7.holds Tryd.pinned (.plain (OpenSpec.upto voteFewSpec)) voteFewUptoCard
end Rows
end Go.Proofs.YtdabedknidkimaaDoor
