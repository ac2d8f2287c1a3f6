/-
  No cell of these rows narrows 'for every input' (looked for: loops, veiled, ifaces, maps, wideKeys, modest, calm, conditions, laid).
  DERIVED. THE GIVEN ROWS OF THIS SEAT. 12 by the template 'for every input the law returns true; each argument reads behind the call as it read before'; 0 by the template 'total and deterministic' (their statements: YtdnddekoankmmaaTotals.lean).
  GIVEN WITH THE SEED: the statements are not yours to turn. If you find one false, say at which input.
  Laid BY PROGRAM, IN A SANDBOX (cutbox-rows.mjs): the forced cells as the released guide's own fill.sh prints them over the translation 3a23dc9b1c835245… (all of the seat's roots in one cut). By AI agents, Wed Nov 11 2026. No macro, syntax, notation, axiom, sorry.
-/
import Derived.Test.YtdnddekoankmmaaChecked
import GoSem.Claim
import GoSem.ClaimJoined
import GoSem.ClaimMapViews
import Derived.JoinedTies
import Derived.KernelRfl
namespace Go.Proofs.Ytdnddekoankmmaa
/- THE CELL 'sum', in the pinned program and in every row, IS THE sha256 OF THE DUMP (.gsa) THAT YtdnddekoankmmaaProg.lean LOADS. Nothing in Lean hashes anything: it is a label: what it is worth is what the hold of that sum in a sandbox is worth. -/
noncomputable def Try.pinned : Pinned := { name := "ytdnddekoankmmaa", sum := "3a23dc9b1c8352452e5e5769d7ec4ac5e5ba037cc202a9d5ef6bd4f90ca4d4f5", checked := Try.checked }
namespace Rows
def none {H : Type} : Left H := { results := [], args := [] }

/-- 'clepsydralaw07.TrimAgrees': WHATEVER THE INPUT: true; the input reads as it did. -/
def trimAgreesSpec : ChangeSpec := { name := "trimAgrees", fn := fun _ => fun
  | [d1, d2] => { results := [.lit (.bool true)], args := [d1, d2] }
  | _ => none }
def trimAgreesRow : OpenClaim := { program := "ytdnddekoankmmaa", sum := "3a23dc9b1c8352452e5e5769d7ec4ac5e5ba037cc202a9d5ef6bd4f90ca4d4f5", func := "clepsydra/clepsydralaw07.TrimAgrees", spec := "trimAgrees", apart := false }
def TrimAgreesSaid : Prop := trimAgreesRow.holds Try.pinned (OpenSpec.ofChange trimAgreesSpec)

/-- ITS FALSE NEIGHBOUR: 'it returns false'. Refute it at one input. -/
def trimAgreesWrong : ChangeSpec := { name := "trimAgrees", fn := fun _ => fun
  | [d1, d2] => { results := [.lit (.bool false)], args := [d1, d2] }
  | _ => none }
def TrimAgreesWrongFalsely : Prop := trimAgreesRow.holds Try.pinned (OpenSpec.ofChange trimAgreesWrong)

/-- 'clepsydralaw13.PulseFires': WHATEVER THE INPUT: true; the input reads as it did. -/
def pulseFiresSpec : ChangeSpec := { name := "pulseFires", fn := fun _ => fun
  | [d1, d2, d3, d4] => { results := [.lit (.bool true)], args := [d1, d2, d3, d4] }
  | _ => none }
def pulseFiresRow : OpenClaim := { program := "ytdnddekoankmmaa", sum := "3a23dc9b1c8352452e5e5769d7ec4ac5e5ba037cc202a9d5ef6bd4f90ca4d4f5", func := "clepsydra/clepsydralaw13.PulseFires", spec := "pulseFires", apart := false }
def PulseFiresSaid : Prop := pulseFiresRow.holds Try.pinned (OpenSpec.ofChange pulseFiresSpec)

/-- ITS FALSE NEIGHBOUR: 'it returns false'. Refute it at one input. -/
def pulseFiresWrong : ChangeSpec := { name := "pulseFires", fn := fun _ => fun
  | [d1, d2, d3, d4] => { results := [.lit (.bool false)], args := [d1, d2, d3, d4] }
  | _ => none }
def PulseFiresWrongFalsely : Prop := pulseFiresRow.holds Try.pinned (OpenSpec.ofChange pulseFiresWrong)

/-- 'clepsydralaw13.PulseParts': WHATEVER THE INPUT: true; the input reads as it did. -/
def pulsePartsSpec : ChangeSpec := { name := "pulseParts", fn := fun _ => fun
  | [d1, d2, d3, d4] => { results := [.lit (.bool true)], args := [d1, d2, d3, d4] }
  | _ => none }
def pulsePartsRow : OpenClaim := { program := "ytdnddekoankmmaa", sum := "3a23dc9b1c8352452e5e5769d7ec4ac5e5ba037cc202a9d5ef6bd4f90ca4d4f5", func := "clepsydra/clepsydralaw13.PulseParts", spec := "pulseParts", apart := false }
def PulsePartsSaid : Prop := pulsePartsRow.holds Try.pinned (OpenSpec.ofChange pulsePartsSpec)

/-- ITS FALSE NEIGHBOUR: 'it returns false'. Refute it at one input. -/
def pulsePartsWrong : ChangeSpec := { name := "pulseParts", fn := fun _ => fun
  | [d1, d2, d3, d4] => { results := [.lit (.bool false)], args := [d1, d2, d3, d4] }
  | _ => none }
def PulsePartsWrongFalsely : Prop := pulsePartsRow.holds Try.pinned (OpenSpec.ofChange pulsePartsWrong)

/-- 'clepsydralaw13.PulseNear': WHATEVER THE INPUT: true; the input reads as it did. -/
def pulseNearSpec : ChangeSpec := { name := "pulseNear", fn := fun _ => fun
  | [d1, d2, d3] => { results := [.lit (.bool true)], args := [d1, d2, d3] }
  | _ => none }
def pulseNearRow : OpenClaim := { program := "ytdnddekoankmmaa", sum := "3a23dc9b1c8352452e5e5769d7ec4ac5e5ba037cc202a9d5ef6bd4f90ca4d4f5", func := "clepsydra/clepsydralaw13.PulseNear", spec := "pulseNear", apart := false }
def PulseNearSaid : Prop := pulseNearRow.holds Try.pinned (OpenSpec.ofChange pulseNearSpec)

/-- ITS FALSE NEIGHBOUR: 'it returns false'. Refute it at one input. -/
def pulseNearWrong : ChangeSpec := { name := "pulseNear", fn := fun _ => fun
  | [d1, d2, d3] => { results := [.lit (.bool false)], args := [d1, d2, d3] }
  | _ => none }
def PulseNearWrongFalsely : Prop := pulseNearRow.holds Try.pinned (OpenSpec.ofChange pulseNearWrong)

/-- 'clepsydralaw07.TrimPicks': WHATEVER THE INPUT: true; the input reads as it did. -/
def trimPicksSpec : ChangeSpec := { name := "trimPicks", fn := fun _ => fun
  | [d1, d2] => { results := [.lit (.bool true)], args := [d1, d2] }
  | _ => none }
def trimPicksRow : OpenClaim := { program := "ytdnddekoankmmaa", sum := "3a23dc9b1c8352452e5e5769d7ec4ac5e5ba037cc202a9d5ef6bd4f90ca4d4f5", func := "clepsydra/clepsydralaw07.TrimPicks", spec := "trimPicks", unfollowed := true, recurses := true, apart := false }
def TrimPicksSaid : Prop := trimPicksRow.holds Try.pinned (OpenSpec.ofChange trimPicksSpec)

/-- ITS FALSE NEIGHBOUR: 'it returns false'. Refute it at one input. -/
def trimPicksWrong : ChangeSpec := { name := "trimPicks", fn := fun _ => fun
  | [d1, d2] => { results := [.lit (.bool false)], args := [d1, d2] }
  | _ => none }
def TrimPicksWrongFalsely : Prop := trimPicksRow.holds Try.pinned (OpenSpec.ofChange trimPicksWrong)

/-- 'clepsydralaw07.TrimFuses': WHATEVER THE INPUT: true; the input reads as it did. -/
def trimFusesSpec : ChangeSpec := { name := "trimFuses", fn := fun _ => fun
  | [d1, d2] => { results := [.lit (.bool true)], args := [d1, d2] }
  | _ => none }
def trimFusesRow : OpenClaim := { program := "ytdnddekoankmmaa", sum := "3a23dc9b1c8352452e5e5769d7ec4ac5e5ba037cc202a9d5ef6bd4f90ca4d4f5", func := "clepsydra/clepsydralaw07.TrimFuses", spec := "trimFuses", unfollowed := true, recurses := true, apart := false }
def TrimFusesSaid : Prop := trimFusesRow.holds Try.pinned (OpenSpec.ofChange trimFusesSpec)

/-- ITS FALSE NEIGHBOUR: 'it returns false'. Refute it at one input. -/
def trimFusesWrong : ChangeSpec := { name := "trimFuses", fn := fun _ => fun
  | [d1, d2] => { results := [.lit (.bool false)], args := [d1, d2] }
  | _ => none }
def TrimFusesWrongFalsely : Prop := trimFusesRow.holds Try.pinned (OpenSpec.ofChange trimFusesWrong)

/-- 'clepsydralaw07.TrimHolds': WHATEVER THE INPUT: true; the input reads as it did. -/
def trimHoldsSpec : ChangeSpec := { name := "trimHolds", fn := fun _ => fun
  | [d1, d2, d3] => { results := [.lit (.bool true)], args := [d1, d2, d3] }
  | _ => none }
def trimHoldsRow : OpenClaim := { program := "ytdnddekoankmmaa", sum := "3a23dc9b1c8352452e5e5769d7ec4ac5e5ba037cc202a9d5ef6bd4f90ca4d4f5", func := "clepsydra/clepsydralaw07.TrimHolds", spec := "trimHolds", unfollowed := true, recurses := true, apart := false }
def TrimHoldsSaid : Prop := trimHoldsRow.holds Try.pinned (OpenSpec.ofChange trimHoldsSpec)

/-- ITS FALSE NEIGHBOUR: 'it returns false'. Refute it at one input. -/
def trimHoldsWrong : ChangeSpec := { name := "trimHolds", fn := fun _ => fun
  | [d1, d2, d3] => { results := [.lit (.bool false)], args := [d1, d2, d3] }
  | _ => none }
def TrimHoldsWrongFalsely : Prop := trimHoldsRow.holds Try.pinned (OpenSpec.ofChange trimHoldsWrong)

/-- 'clepsydralaw07.TrimBetween': WHATEVER THE INPUT: true; the input reads as it did. -/
def trimBetweenSpec : ChangeSpec := { name := "trimBetween", fn := fun _ => fun
  | [d1, d2, d3, d4] => { results := [.lit (.bool true)], args := [d1, d2, d3, d4] }
  | _ => none }
def trimBetweenRow : OpenClaim := { program := "ytdnddekoankmmaa", sum := "3a23dc9b1c8352452e5e5769d7ec4ac5e5ba037cc202a9d5ef6bd4f90ca4d4f5", func := "clepsydra/clepsydralaw07.TrimBetween", spec := "trimBetween", unfollowed := true, recurses := true, apart := false }
def TrimBetweenSaid : Prop := trimBetweenRow.holds Try.pinned (OpenSpec.ofChange trimBetweenSpec)

/-- ITS FALSE NEIGHBOUR: 'it returns false'. Refute it at one input. -/
def trimBetweenWrong : ChangeSpec := { name := "trimBetween", fn := fun _ => fun
  | [d1, d2, d3, d4] => { results := [.lit (.bool false)], args := [d1, d2, d3, d4] }
  | _ => none }
def TrimBetweenWrongFalsely : Prop := trimBetweenRow.holds Try.pinned (OpenSpec.ofChange trimBetweenWrong)

/-- 'clepsydralaw07.TrimOrders': WHATEVER THE INPUT: true; the input reads as it did. -/
def trimOrdersSpec : ChangeSpec := { name := "trimOrders", fn := fun _ => fun
  | [d1, d2, d3] => { results := [.lit (.bool true)], args := [d1, d2, d3] }
  | _ => none }
def trimOrdersRow : OpenClaim := { program := "ytdnddekoankmmaa", sum := "3a23dc9b1c8352452e5e5769d7ec4ac5e5ba037cc202a9d5ef6bd4f90ca4d4f5", func := "clepsydra/clepsydralaw07.TrimOrders", spec := "trimOrders", unfollowed := true, recurses := true, apart := false }
def TrimOrdersSaid : Prop := trimOrdersRow.holds Try.pinned (OpenSpec.ofChange trimOrdersSpec)

/-- ITS FALSE NEIGHBOUR: 'it returns false'. Refute it at one input. -/
def trimOrdersWrong : ChangeSpec := { name := "trimOrders", fn := fun _ => fun
  | [d1, d2, d3] => { results := [.lit (.bool false)], args := [d1, d2, d3] }
  | _ => none }
def TrimOrdersWrongFalsely : Prop := trimOrdersRow.holds Try.pinned (OpenSpec.ofChange trimOrdersWrong)

/-- 'clepsydralaw07.TrimVotes': WHATEVER THE INPUT: true; the input reads as it did. -/
def trimVotesSpec : ChangeSpec := { name := "trimVotes", fn := fun _ => fun
  | [d1, d2, d3, d4] => { results := [.lit (.bool true)], args := [d1, d2, d3, d4] }
  | _ => none }
def trimVotesRow : OpenClaim := { program := "ytdnddekoankmmaa", sum := "3a23dc9b1c8352452e5e5769d7ec4ac5e5ba037cc202a9d5ef6bd4f90ca4d4f5", func := "clepsydra/clepsydralaw07.TrimVotes", spec := "trimVotes", unfollowed := true, recurses := true, apart := false }
def TrimVotesSaid : Prop := trimVotesRow.holds Try.pinned (OpenSpec.ofChange trimVotesSpec)

/-- ITS FALSE NEIGHBOUR: 'it returns false'. Refute it at one input. -/
def trimVotesWrong : ChangeSpec := { name := "trimVotes", fn := fun _ => fun
  | [d1, d2, d3, d4] => { results := [.lit (.bool false)], args := [d1, d2, d3, d4] }
  | _ => none }
def TrimVotesWrongFalsely : Prop := trimVotesRow.holds Try.pinned (OpenSpec.ofChange trimVotesWrong)

/-- 'clepsydralaw13.PulseVotes': WHATEVER THE INPUT: true; the input reads as it did. -/
def pulseVotesSpec : ChangeSpec := { name := "pulseVotes", fn := fun _ => fun
  | [d1, d2, d3, d4] => { results := [.lit (.bool true)], args := [d1, d2, d3, d4] }
  | _ => none }
def pulseVotesRow : OpenClaim := { program := "ytdnddekoankmmaa", sum := "3a23dc9b1c8352452e5e5769d7ec4ac5e5ba037cc202a9d5ef6bd4f90ca4d4f5", func := "clepsydra/clepsydralaw13.PulseVotes", spec := "pulseVotes", unfollowed := true, recurses := true, apart := false }
def PulseVotesSaid : Prop := pulseVotesRow.holds Try.pinned (OpenSpec.ofChange pulseVotesSpec)

/-- ITS FALSE NEIGHBOUR: 'it returns false'. Refute it at one input. -/
def pulseVotesWrong : ChangeSpec := { name := "pulseVotes", fn := fun _ => fun
  | [d1, d2, d3, d4] => { results := [.lit (.bool false)], args := [d1, d2, d3, d4] }
  | _ => none }
def PulseVotesWrongFalsely : Prop := pulseVotesRow.holds Try.pinned (OpenSpec.ofChange pulseVotesWrong)

/-- 'clepsydralaw07.TrimKeeps': WHATEVER THE INPUT: true; the input reads as it did. -/
def trimKeepsSpec : ChangeSpec := { name := "trimKeeps", fn := fun _ => fun
  | [d1, d2] => { results := [.lit (.bool true)], args := [d1, d2] }
  | _ => none }
def trimKeepsRow : OpenClaim := { program := "ytdnddekoankmmaa", sum := "3a23dc9b1c8352452e5e5769d7ec4ac5e5ba037cc202a9d5ef6bd4f90ca4d4f5", func := "clepsydra/clepsydralaw07.TrimKeeps", spec := "trimKeeps", unfollowed := true, recurses := true, apart := false }
def TrimKeepsSaid : Prop := trimKeepsRow.holds Try.pinned (OpenSpec.ofChange trimKeepsSpec)

/-- ITS FALSE NEIGHBOUR: 'it returns false'. Refute it at one input. -/
def trimKeepsWrong : ChangeSpec := { name := "trimKeeps", fn := fun _ => fun
  | [d1, d2] => { results := [.lit (.bool false)], args := [d1, d2] }
  | _ => none }
def TrimKeepsWrongFalsely : Prop := trimKeepsRow.holds Try.pinned (OpenSpec.ofChange trimKeepsWrong)

/- THE SECOND FORM. 'bulk': how many values and letters a reading holds, each counted each time it is reached (what is shared counts as often as it is met; a slice's spare places count too). A statement '..UptoSaid' is the law's where the arguments, and the package variables that the reading takes, are together of bulk at most 1048576: NARROWER than '..Said'. Prove '..Said' where nothing that the law and all that it calls make is longer than what came in: it says more and counts as full. Else prove '..UptoSaid'. A law counts once. -/
mutual
def uptoBulk {H : Type} : DataW H → Nat
  | .lit (.string bytes) => bytes.length + 1
  | .lit _ => 1
  | .nil => 1
  | .ptr d => uptoBulk d + 1
  | .slice elems spare => uptoBulkAll elems + uptoBulkAll spare + 1
  | .agg parts => uptoBulkAll parts + 1
  | .iface _ d => uptoBulk d + 1
  | .map entries => uptoBulkEntries entries + 1
  | .held _ => 1
def uptoBulkAll {H : Type} : List (DataW H) → Nat
  | [] => 0
  | d :: r => uptoBulk d + uptoBulkAll r
def uptoBulkEntries {H : Type} : List (Lit × DataW H) → Nat
  | [] => 0
  | x :: r => uptoBulkEntry x + uptoBulkEntries r
def uptoBulkEntry {H : Type} : Lit × DataW H → Nat
  | (.string bytes, d) => bytes.length + uptoBulk d + 1
  | (_, d) => uptoBulk d + 1
 end
def uptoSmall : (H : Type) → List (DataW H) → Bool := fun _ ds => decide (uptoBulkAll ds ≤ 1048576)
def OpenSpec.upto (s : _root_.Go.ChangeSpec) : _root_.Go.OpenSpec := { _root_.Go.OpenSpec.ofChange s with cond := some uptoSmall }

/-- 'clepsydralaw07.TrimAgrees', WHERE WHAT IT READS IS OF BULK AT MOST 1048576: true; the input reads as it did. -/
def trimAgreesUptoRow : OpenClaim := { program := "ytdnddekoankmmaa", sum := "3a23dc9b1c8352452e5e5769d7ec4ac5e5ba037cc202a9d5ef6bd4f90ca4d4f5", func := "clepsydra/clepsydralaw07.TrimAgrees", spec := "trimAgrees", apart := false, narrowed := true }
def TrimAgreesUptoSaid : Prop := trimAgreesUptoRow.holds Try.pinned (OpenSpec.upto trimAgreesSpec)

/-- 'clepsydralaw13.PulseFires', WHERE WHAT IT READS IS OF BULK AT MOST 1048576: true; the input reads as it did. -/
def pulseFiresUptoRow : OpenClaim := { program := "ytdnddekoankmmaa", sum := "3a23dc9b1c8352452e5e5769d7ec4ac5e5ba037cc202a9d5ef6bd4f90ca4d4f5", func := "clepsydra/clepsydralaw13.PulseFires", spec := "pulseFires", apart := false, narrowed := true }
def PulseFiresUptoSaid : Prop := pulseFiresUptoRow.holds Try.pinned (OpenSpec.upto pulseFiresSpec)

/-- 'clepsydralaw13.PulseParts', WHERE WHAT IT READS IS OF BULK AT MOST 1048576: true; the input reads as it did. -/
def pulsePartsUptoRow : OpenClaim := { program := "ytdnddekoankmmaa", sum := "3a23dc9b1c8352452e5e5769d7ec4ac5e5ba037cc202a9d5ef6bd4f90ca4d4f5", func := "clepsydra/clepsydralaw13.PulseParts", spec := "pulseParts", apart := false, narrowed := true }
def PulsePartsUptoSaid : Prop := pulsePartsUptoRow.holds Try.pinned (OpenSpec.upto pulsePartsSpec)

/-- 'clepsydralaw13.PulseNear', WHERE WHAT IT READS IS OF BULK AT MOST 1048576: true; the input reads as it did. -/
def pulseNearUptoRow : OpenClaim := { program := "ytdnddekoankmmaa", sum := "3a23dc9b1c8352452e5e5769d7ec4ac5e5ba037cc202a9d5ef6bd4f90ca4d4f5", func := "clepsydra/clepsydralaw13.PulseNear", spec := "pulseNear", apart := false, narrowed := true }
def PulseNearUptoSaid : Prop := pulseNearUptoRow.holds Try.pinned (OpenSpec.upto pulseNearSpec)

/-- 'clepsydralaw07.TrimPicks', WHERE WHAT IT READS IS OF BULK AT MOST 1048576: true; the input reads as it did. -/
def trimPicksUptoRow : OpenClaim := { program := "ytdnddekoankmmaa", sum := "3a23dc9b1c8352452e5e5769d7ec4ac5e5ba037cc202a9d5ef6bd4f90ca4d4f5", func := "clepsydra/clepsydralaw07.TrimPicks", spec := "trimPicks", unfollowed := true, recurses := true, apart := false, narrowed := true }
def TrimPicksUptoSaid : Prop := trimPicksUptoRow.holds Try.pinned (OpenSpec.upto trimPicksSpec)

/-- 'clepsydralaw07.TrimFuses', WHERE WHAT IT READS IS OF BULK AT MOST 1048576: true; the input reads as it did. -/
def trimFusesUptoRow : OpenClaim := { program := "ytdnddekoankmmaa", sum := "3a23dc9b1c8352452e5e5769d7ec4ac5e5ba037cc202a9d5ef6bd4f90ca4d4f5", func := "clepsydra/clepsydralaw07.TrimFuses", spec := "trimFuses", unfollowed := true, recurses := true, apart := false, narrowed := true }
def TrimFusesUptoSaid : Prop := trimFusesUptoRow.holds Try.pinned (OpenSpec.upto trimFusesSpec)

/-- 'clepsydralaw07.TrimHolds', WHERE WHAT IT READS IS OF BULK AT MOST 1048576: true; the input reads as it did. -/
def trimHoldsUptoRow : OpenClaim := { program := "ytdnddekoankmmaa", sum := "3a23dc9b1c8352452e5e5769d7ec4ac5e5ba037cc202a9d5ef6bd4f90ca4d4f5", func := "clepsydra/clepsydralaw07.TrimHolds", spec := "trimHolds", unfollowed := true, recurses := true, apart := false, narrowed := true }
def TrimHoldsUptoSaid : Prop := trimHoldsUptoRow.holds Try.pinned (OpenSpec.upto trimHoldsSpec)

/-- 'clepsydralaw07.TrimBetween', WHERE WHAT IT READS IS OF BULK AT MOST 1048576: true; the input reads as it did. -/
def trimBetweenUptoRow : OpenClaim := { program := "ytdnddekoankmmaa", sum := "3a23dc9b1c8352452e5e5769d7ec4ac5e5ba037cc202a9d5ef6bd4f90ca4d4f5", func := "clepsydra/clepsydralaw07.TrimBetween", spec := "trimBetween", unfollowed := true, recurses := true, apart := false, narrowed := true }
def TrimBetweenUptoSaid : Prop := trimBetweenUptoRow.holds Try.pinned (OpenSpec.upto trimBetweenSpec)

/-- 'clepsydralaw07.TrimOrders', WHERE WHAT IT READS IS OF BULK AT MOST 1048576: true; the input reads as it did. -/
def trimOrdersUptoRow : OpenClaim := { program := "ytdnddekoankmmaa", sum := "3a23dc9b1c8352452e5e5769d7ec4ac5e5ba037cc202a9d5ef6bd4f90ca4d4f5", func := "clepsydra/clepsydralaw07.TrimOrders", spec := "trimOrders", unfollowed := true, recurses := true, apart := false, narrowed := true }
def TrimOrdersUptoSaid : Prop := trimOrdersUptoRow.holds Try.pinned (OpenSpec.upto trimOrdersSpec)

/-- 'clepsydralaw07.TrimVotes', WHERE WHAT IT READS IS OF BULK AT MOST 1048576: true; the input reads as it did. -/
def trimVotesUptoRow : OpenClaim := { program := "ytdnddekoankmmaa", sum := "3a23dc9b1c8352452e5e5769d7ec4ac5e5ba037cc202a9d5ef6bd4f90ca4d4f5", func := "clepsydra/clepsydralaw07.TrimVotes", spec := "trimVotes", unfollowed := true, recurses := true, apart := false, narrowed := true }
def TrimVotesUptoSaid : Prop := trimVotesUptoRow.holds Try.pinned (OpenSpec.upto trimVotesSpec)

/-- 'clepsydralaw13.PulseVotes', WHERE WHAT IT READS IS OF BULK AT MOST 1048576: true; the input reads as it did. -/
def pulseVotesUptoRow : OpenClaim := { program := "ytdnddekoankmmaa", sum := "3a23dc9b1c8352452e5e5769d7ec4ac5e5ba037cc202a9d5ef6bd4f90ca4d4f5", func := "clepsydra/clepsydralaw13.PulseVotes", spec := "pulseVotes", unfollowed := true, recurses := true, apart := false, narrowed := true }
def PulseVotesUptoSaid : Prop := pulseVotesUptoRow.holds Try.pinned (OpenSpec.upto pulseVotesSpec)

/-- 'clepsydralaw07.TrimKeeps', WHERE WHAT IT READS IS OF BULK AT MOST 1048576: true; the input reads as it did. -/
def trimKeepsUptoRow : OpenClaim := { program := "ytdnddekoankmmaa", sum := "3a23dc9b1c8352452e5e5769d7ec4ac5e5ba037cc202a9d5ef6bd4f90ca4d4f5", func := "clepsydra/clepsydralaw07.TrimKeeps", spec := "trimKeeps", unfollowed := true, recurses := true, apart := false, narrowed := true }
def TrimKeepsUptoSaid : Prop := trimKeepsUptoRow.holds Try.pinned (OpenSpec.upto trimKeepsSpec)

end Rows
end Go.Proofs.Ytdnddekoankmmaa
