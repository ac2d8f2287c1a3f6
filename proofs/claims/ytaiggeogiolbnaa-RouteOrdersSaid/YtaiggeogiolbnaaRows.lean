/-
  No cell of these rows narrows 'for every input' (looked for: loops, veiled, ifaces, maps, wideKeys, modest, calm, conditions, laid).
  DERIVED. THE GIVEN ROWS OF THIS SEAT. 9 by the template 'for every input the law returns true; each argument reads behind the call as it read before'; 0 by the template 'total and deterministic' (their statements: YtaiggeogiolbnaaTotals.lean).
  GIVEN WITH THE SEED: the statements are not yours to turn. If you find one false, say at which input.
  Laid BY PROGRAM, IN A SANDBOX (cutbox-rows.mjs): the forced cells as the released guide's own fill.sh prints them over the translation 62d4b3695ec27222… (all of the seat's roots in one cut). By AI agents, Wed Nov 11 2026. No macro, syntax, notation, axiom, sorry.
-/
import Derived.Test.YtaiggeogiolbnaaChecked
import GoSem.Claim
import GoSem.ClaimJoined
import GoSem.ClaimMapViews
import Derived.JoinedTies
import Derived.KernelRfl
namespace Go.Proofs.Ytaiggeogiolbnaa
/- THE CELL 'sum', in the pinned program and in every row, IS THE sha256 OF THE DUMP (.gsa) THAT YtaiggeogiolbnaaProg.lean LOADS. Nothing in Lean hashes anything: it is a label: what it is worth is what the hold of that sum in a sandbox is worth. -/
noncomputable def Try.pinned : Pinned := { name := "ytaiggeogiolbnaa", sum := "62d4b3695ec2722212856246bb67189ce06a7c2b281b3683928d72fe15c1b720", checked := Try.checked }
namespace Rows
def none {H : Type} : Left H := { results := [], args := [] }

/-- 'clepsydralaw15.RouteNexts': WHATEVER THE INPUT: true; the input reads as it did. -/
def routeNextsSpec : ChangeSpec := { name := "routeNexts", fn := fun _ => fun
  | [d1, d2] => { results := [.lit (.bool true)], args := [d1, d2] }
  | _ => none }
def routeNextsRow : OpenClaim := { program := "ytaiggeogiolbnaa", sum := "62d4b3695ec2722212856246bb67189ce06a7c2b281b3683928d72fe15c1b720", func := "clepsydra/clepsydralaw15.RouteNexts", spec := "routeNexts", apart := false }
def RouteNextsSaid : Prop := routeNextsRow.holds Try.pinned (OpenSpec.ofChange routeNextsSpec)

/-- ITS FALSE NEIGHBOUR: 'it returns false'. Refute it at one input. -/
def routeNextsWrong : ChangeSpec := { name := "routeNexts", fn := fun _ => fun
  | [d1, d2] => { results := [.lit (.bool false)], args := [d1, d2] }
  | _ => none }
def RouteNextsWrongFalsely : Prop := routeNextsRow.holds Try.pinned (OpenSpec.ofChange routeNextsWrong)

/-- 'clepsydralaw15.RouteChooses': WHATEVER THE INPUT: true; the input reads as it did. -/
def routeChoosesSpec : ChangeSpec := { name := "routeChooses", fn := fun _ => fun
  | [d1, d2] => { results := [.lit (.bool true)], args := [d1, d2] }
  | _ => none }
def routeChoosesRow : OpenClaim := { program := "ytaiggeogiolbnaa", sum := "62d4b3695ec2722212856246bb67189ce06a7c2b281b3683928d72fe15c1b720", func := "clepsydra/clepsydralaw15.RouteChooses", spec := "routeChooses", apart := false }
def RouteChoosesSaid : Prop := routeChoosesRow.holds Try.pinned (OpenSpec.ofChange routeChoosesSpec)

/-- ITS FALSE NEIGHBOUR: 'it returns false'. Refute it at one input. -/
def routeChoosesWrong : ChangeSpec := { name := "routeChooses", fn := fun _ => fun
  | [d1, d2] => { results := [.lit (.bool false)], args := [d1, d2] }
  | _ => none }
def RouteChoosesWrongFalsely : Prop := routeChoosesRow.holds Try.pinned (OpenSpec.ofChange routeChoosesWrong)

/-- 'clepsydralaw15.RouteBest': WHATEVER THE INPUT: true; the input reads as it did. -/
def routeBestSpec : ChangeSpec := { name := "routeBest", fn := fun _ => fun
  | [d1, d2] => { results := [.lit (.bool true)], args := [d1, d2] }
  | _ => none }
def routeBestRow : OpenClaim := { program := "ytaiggeogiolbnaa", sum := "62d4b3695ec2722212856246bb67189ce06a7c2b281b3683928d72fe15c1b720", func := "clepsydra/clepsydralaw15.RouteBest", spec := "routeBest", apart := false }
def RouteBestSaid : Prop := routeBestRow.holds Try.pinned (OpenSpec.ofChange routeBestSpec)

/-- ITS FALSE NEIGHBOUR: 'it returns false'. Refute it at one input. -/
def routeBestWrong : ChangeSpec := { name := "routeBest", fn := fun _ => fun
  | [d1, d2] => { results := [.lit (.bool false)], args := [d1, d2] }
  | _ => none }
def RouteBestWrongFalsely : Prop := routeBestRow.holds Try.pinned (OpenSpec.ofChange routeBestWrong)

/-- 'clepsydralaw15.RouteSettles': WHATEVER THE INPUT: true; the input reads as it did. -/
def routeSettlesSpec : ChangeSpec := { name := "routeSettles", fn := fun _ => fun
  | [d1, d2, d3, d4] => { results := [.lit (.bool true)], args := [d1, d2, d3, d4] }
  | _ => none }
def routeSettlesRow : OpenClaim := { program := "ytaiggeogiolbnaa", sum := "62d4b3695ec2722212856246bb67189ce06a7c2b281b3683928d72fe15c1b720", func := "clepsydra/clepsydralaw15.RouteSettles", spec := "routeSettles", apart := false }
def RouteSettlesSaid : Prop := routeSettlesRow.holds Try.pinned (OpenSpec.ofChange routeSettlesSpec)

/-- ITS FALSE NEIGHBOUR: 'it returns false'. Refute it at one input. -/
def routeSettlesWrong : ChangeSpec := { name := "routeSettles", fn := fun _ => fun
  | [d1, d2, d3, d4] => { results := [.lit (.bool false)], args := [d1, d2, d3, d4] }
  | _ => none }
def RouteSettlesWrongFalsely : Prop := routeSettlesRow.holds Try.pinned (OpenSpec.ofChange routeSettlesWrong)

/-- 'clepsydralaw15.RouteOrders': WHATEVER THE INPUT: true; the input reads as it did. -/
def routeOrdersSpec : ChangeSpec := { name := "routeOrders", fn := fun _ => fun
  | [d1, d2] => { results := [.lit (.bool true)], args := [d1, d2] }
  | _ => none }
def routeOrdersRow : OpenClaim := { program := "ytaiggeogiolbnaa", sum := "62d4b3695ec2722212856246bb67189ce06a7c2b281b3683928d72fe15c1b720", func := "clepsydra/clepsydralaw15.RouteOrders", spec := "routeOrders", apart := false }
def RouteOrdersSaid : Prop := routeOrdersRow.holds Try.pinned (OpenSpec.ofChange routeOrdersSpec)

/-- ITS FALSE NEIGHBOUR: 'it returns false'. Refute it at one input. -/
def routeOrdersWrong : ChangeSpec := { name := "routeOrders", fn := fun _ => fun
  | [d1, d2] => { results := [.lit (.bool false)], args := [d1, d2] }
  | _ => none }
def RouteOrdersWrongFalsely : Prop := routeOrdersRow.holds Try.pinned (OpenSpec.ofChange routeOrdersWrong)

/-- 'clepsydralaw16.AnchorAges': WHATEVER THE INPUT: true; the input reads as it did. -/
def anchorAgesSpec : ChangeSpec := { name := "anchorAges", fn := fun _ => fun
  | [d1, d2, d3, d4] => { results := [.lit (.bool true)], args := [d1, d2, d3, d4] }
  | _ => none }
def anchorAgesRow : OpenClaim := { program := "ytaiggeogiolbnaa", sum := "62d4b3695ec2722212856246bb67189ce06a7c2b281b3683928d72fe15c1b720", func := "clepsydra/clepsydralaw16.AnchorAges", spec := "anchorAges", unfollowed := true, recurses := true, apart := false }
def AnchorAgesSaid : Prop := anchorAgesRow.holds Try.pinned (OpenSpec.ofChange anchorAgesSpec)

/-- ITS FALSE NEIGHBOUR: 'it returns false'. Refute it at one input. -/
def anchorAgesWrong : ChangeSpec := { name := "anchorAges", fn := fun _ => fun
  | [d1, d2, d3, d4] => { results := [.lit (.bool false)], args := [d1, d2, d3, d4] }
  | _ => none }
def AnchorAgesWrongFalsely : Prop := anchorAgesRow.holds Try.pinned (OpenSpec.ofChange anchorAgesWrong)

/-- 'clepsydralaw16.AnchorSees': WHATEVER THE INPUT: true; the input reads as it did. -/
def anchorSeesSpec : ChangeSpec := { name := "anchorSees", fn := fun _ => fun
  | [d1, d2, d3, d4] => { results := [.lit (.bool true)], args := [d1, d2, d3, d4] }
  | _ => none }
def anchorSeesRow : OpenClaim := { program := "ytaiggeogiolbnaa", sum := "62d4b3695ec2722212856246bb67189ce06a7c2b281b3683928d72fe15c1b720", func := "clepsydra/clepsydralaw16.AnchorSees", spec := "anchorSees", unfollowed := true, recurses := true, apart := false }
def AnchorSeesSaid : Prop := anchorSeesRow.holds Try.pinned (OpenSpec.ofChange anchorSeesSpec)

/-- ITS FALSE NEIGHBOUR: 'it returns false'. Refute it at one input. -/
def anchorSeesWrong : ChangeSpec := { name := "anchorSees", fn := fun _ => fun
  | [d1, d2, d3, d4] => { results := [.lit (.bool false)], args := [d1, d2, d3, d4] }
  | _ => none }
def AnchorSeesWrongFalsely : Prop := anchorSeesRow.holds Try.pinned (OpenSpec.ofChange anchorSeesWrong)

/-- 'clepsydralaw16.AnchorMoves': WHATEVER THE INPUT: true; the input reads as it did. -/
def anchorMovesSpec : ChangeSpec := { name := "anchorMoves", fn := fun _ => fun
  | [d1, d2, d3] => { results := [.lit (.bool true)], args := [d1, d2, d3] }
  | _ => none }
def anchorMovesRow : OpenClaim := { program := "ytaiggeogiolbnaa", sum := "62d4b3695ec2722212856246bb67189ce06a7c2b281b3683928d72fe15c1b720", func := "clepsydra/clepsydralaw16.AnchorMoves", spec := "anchorMoves", unfollowed := true, recurses := true, apart := false }
def AnchorMovesSaid : Prop := anchorMovesRow.holds Try.pinned (OpenSpec.ofChange anchorMovesSpec)

/-- ITS FALSE NEIGHBOUR: 'it returns false'. Refute it at one input. -/
def anchorMovesWrong : ChangeSpec := { name := "anchorMoves", fn := fun _ => fun
  | [d1, d2, d3] => { results := [.lit (.bool false)], args := [d1, d2, d3] }
  | _ => none }
def AnchorMovesWrongFalsely : Prop := anchorMovesRow.holds Try.pinned (OpenSpec.ofChange anchorMovesWrong)

/-- 'clepsydralaw16.AnchorHolds': WHATEVER THE INPUT: true; the input reads as it did. -/
def anchorHoldsSpec : ChangeSpec := { name := "anchorHolds", fn := fun _ => fun
  | [d1, d2, d3, d4] => { results := [.lit (.bool true)], args := [d1, d2, d3, d4] }
  | _ => none }
def anchorHoldsRow : OpenClaim := { program := "ytaiggeogiolbnaa", sum := "62d4b3695ec2722212856246bb67189ce06a7c2b281b3683928d72fe15c1b720", func := "clepsydra/clepsydralaw16.AnchorHolds", spec := "anchorHolds", unfollowed := true, recurses := true, apart := false }
def AnchorHoldsSaid : Prop := anchorHoldsRow.holds Try.pinned (OpenSpec.ofChange anchorHoldsSpec)

/-- ITS FALSE NEIGHBOUR: 'it returns false'. Refute it at one input. -/
def anchorHoldsWrong : ChangeSpec := { name := "anchorHolds", fn := fun _ => fun
  | [d1, d2, d3, d4] => { results := [.lit (.bool false)], args := [d1, d2, d3, d4] }
  | _ => none }
def AnchorHoldsWrongFalsely : Prop := anchorHoldsRow.holds Try.pinned (OpenSpec.ofChange anchorHoldsWrong)

/- THE SECOND FORM. 'bulk': how many values and letters a reading holds, each counted each time it is reached (what is shared counts as often as it is met; a slice's spare places count too). A statement '..UptoSaid' is the law's where the arguments, and the package variables that the reading takes, are together of bulk at most 1048576: NARROWER than '..Said'. Prove '..Said' where nothing that the law and all that it calls make is longer than what came in: it says more and counts as full. Else prove '..UptoSaid'. A law counts once. -/
mutual
def uptoBulk {H : Type} : DataW H → Nat
  | .lit (.string bytes) => bytes.length + 1
  | .lit _ => 1
  | .nil => 1
  | .ptr d => uptoBulk d + 1
  | .slice elems spare => uptoBulkAll elems + uptoBulkAll spare + 1
  | .agg parts => uptoBulkAll parts + 1
  | .iface _ d => uptoBulk d + 1
  | .map entries => uptoBulkEntries entries + 1
  | .held _ => 1
def uptoBulkAll {H : Type} : List (DataW H) → Nat
  | [] => 0
  | d :: r => uptoBulk d + uptoBulkAll r
def uptoBulkEntries {H : Type} : List (Lit × DataW H) → Nat
  | [] => 0
  | x :: r => uptoBulkEntry x + uptoBulkEntries r
def uptoBulkEntry {H : Type} : Lit × DataW H → Nat
  | (.string bytes, d) => bytes.length + uptoBulk d + 1
  | (_, d) => uptoBulk d + 1
 end
def uptoSmall : (H : Type) → List (DataW H) → Bool := fun _ ds => decide (uptoBulkAll ds ≤ 1048576)
def OpenSpec.upto (s : _root_.Go.ChangeSpec) : _root_.Go.OpenSpec := { _root_.Go.OpenSpec.ofChange s with cond := some uptoSmall }

/-- 'clepsydralaw15.RouteNexts', WHERE WHAT IT READS IS OF BULK AT MOST 1048576: true; the input reads as it did. -/
def routeNextsUptoRow : OpenClaim := { program := "ytaiggeogiolbnaa", sum := "62d4b3695ec2722212856246bb67189ce06a7c2b281b3683928d72fe15c1b720", func := "clepsydra/clepsydralaw15.RouteNexts", spec := "routeNexts", apart := false, narrowed := true }
def RouteNextsUptoSaid : Prop := routeNextsUptoRow.holds Try.pinned (OpenSpec.upto routeNextsSpec)

/-- 'clepsydralaw15.RouteChooses', WHERE WHAT IT READS IS OF BULK AT MOST 1048576: true; the input reads as it did. -/
def routeChoosesUptoRow : OpenClaim := { program := "ytaiggeogiolbnaa", sum := "62d4b3695ec2722212856246bb67189ce06a7c2b281b3683928d72fe15c1b720", func := "clepsydra/clepsydralaw15.RouteChooses", spec := "routeChooses", apart := false, narrowed := true }
def RouteChoosesUptoSaid : Prop := routeChoosesUptoRow.holds Try.pinned (OpenSpec.upto routeChoosesSpec)

/-- 'clepsydralaw15.RouteBest', WHERE WHAT IT READS IS OF BULK AT MOST 1048576: true; the input reads as it did. -/
def routeBestUptoRow : OpenClaim := { program := "ytaiggeogiolbnaa", sum := "62d4b3695ec2722212856246bb67189ce06a7c2b281b3683928d72fe15c1b720", func := "clepsydra/clepsydralaw15.RouteBest", spec := "routeBest", apart := false, narrowed := true }
def RouteBestUptoSaid : Prop := routeBestUptoRow.holds Try.pinned (OpenSpec.upto routeBestSpec)

/-- 'clepsydralaw15.RouteSettles', WHERE WHAT IT READS IS OF BULK AT MOST 1048576: true; the input reads as it did. -/
def routeSettlesUptoRow : OpenClaim := { program := "ytaiggeogiolbnaa", sum := "62d4b3695ec2722212856246bb67189ce06a7c2b281b3683928d72fe15c1b720", func := "clepsydra/clepsydralaw15.RouteSettles", spec := "routeSettles", apart := false, narrowed := true }
def RouteSettlesUptoSaid : Prop := routeSettlesUptoRow.holds Try.pinned (OpenSpec.upto routeSettlesSpec)

/-- 'clepsydralaw15.RouteOrders', WHERE WHAT IT READS IS OF BULK AT MOST 1048576: true; the input reads as it did. -/
def routeOrdersUptoRow : OpenClaim := { program := "ytaiggeogiolbnaa", sum := "62d4b3695ec2722212856246bb67189ce06a7c2b281b3683928d72fe15c1b720", func := "clepsydra/clepsydralaw15.RouteOrders", spec := "routeOrders", apart := false, narrowed := true }
def RouteOrdersUptoSaid : Prop := routeOrdersUptoRow.holds Try.pinned (OpenSpec.upto routeOrdersSpec)

/-- 'clepsydralaw16.AnchorAges', WHERE WHAT IT READS IS OF BULK AT MOST 1048576: true; the input reads as it did. -/
def anchorAgesUptoRow : OpenClaim := { program := "ytaiggeogiolbnaa", sum := "62d4b3695ec2722212856246bb67189ce06a7c2b281b3683928d72fe15c1b720", func := "clepsydra/clepsydralaw16.AnchorAges", spec := "anchorAges", unfollowed := true, recurses := true, apart := false, narrowed := true }
def AnchorAgesUptoSaid : Prop := anchorAgesUptoRow.holds Try.pinned (OpenSpec.upto anchorAgesSpec)

/-- 'clepsydralaw16.AnchorSees', WHERE WHAT IT READS IS OF BULK AT MOST 1048576: true; the input reads as it did. -/
def anchorSeesUptoRow : OpenClaim := { program := "ytaiggeogiolbnaa", sum := "62d4b3695ec2722212856246bb67189ce06a7c2b281b3683928d72fe15c1b720", func := "clepsydra/clepsydralaw16.AnchorSees", spec := "anchorSees", unfollowed := true, recurses := true, apart := false, narrowed := true }
def AnchorSeesUptoSaid : Prop := anchorSeesUptoRow.holds Try.pinned (OpenSpec.upto anchorSeesSpec)

/-- 'clepsydralaw16.AnchorMoves', WHERE WHAT IT READS IS OF BULK AT MOST 1048576: true; the input reads as it did. -/
def anchorMovesUptoRow : OpenClaim := { program := "ytaiggeogiolbnaa", sum := "62d4b3695ec2722212856246bb67189ce06a7c2b281b3683928d72fe15c1b720", func := "clepsydra/clepsydralaw16.AnchorMoves", spec := "anchorMoves", unfollowed := true, recurses := true, apart := false, narrowed := true }
def AnchorMovesUptoSaid : Prop := anchorMovesUptoRow.holds Try.pinned (OpenSpec.upto anchorMovesSpec)

/-- 'clepsydralaw16.AnchorHolds', WHERE WHAT IT READS IS OF BULK AT MOST 1048576: true; the input reads as it did. -/
def anchorHoldsUptoRow : OpenClaim := { program := "ytaiggeogiolbnaa", sum := "62d4b3695ec2722212856246bb67189ce06a7c2b281b3683928d72fe15c1b720", func := "clepsydra/clepsydralaw16.AnchorHolds", spec := "anchorHolds", unfollowed := true, recurses := true, apart := false, narrowed := true }
def AnchorHoldsUptoSaid : Prop := anchorHoldsUptoRow.holds Try.pinned (OpenSpec.upto anchorHoldsSpec)

end Rows
end Go.Proofs.Ytaiggeogiolbnaa
