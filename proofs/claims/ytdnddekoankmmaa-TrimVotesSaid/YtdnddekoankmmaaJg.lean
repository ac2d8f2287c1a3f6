/- trim.Least, in the form in which the other functions call it. -/
import Derived.Test.YtdnddekoankmmaaSo
namespace Go.Proofs.Ytdnddekoankmmaa.J
open Go.RowKit Go.Proofs.YtdnddekoankmmaaW.PrintWords Go.Proofs.YtdnddekoankmmaaW.PrintLast Go.Proofs.YtdnddekoankmmaaW.PrintMore
def trim_Least.f (a0 : Int) (l1 : List Int) : Option (Int × Bool) := if l1.length * 8 ≤ 140737488351232 then some (So.least a0 l1, So.has a0 l1) else none
theorem trim_Least.calls (a0 : Int) (A1 : Option Addr) (c1 : Nat) (l1 : List Int) (r1 : Int) (r2 : Bool) (w : World) (hr1 : Kd.C (Kd.int .i64) w A1 l1.length l1) (_hc1 : l1.length ≤ c1) (h : trim_Least.f a0 l1 = some (r1, r2)) :
    Calls Try.prog 24 #[.int .i64 a0, .slice A1 l1.length c1] w fun e w' => e = .returned (.tuple #[.int .i64 r1, .bool r2]) ∧ Below w.heap.size w w' := by
  unfold trim_Least.f at h
  split at h
  · rename_i hl
    obtain ⟨rfl, rfl⟩ := Prod.mk.inj (Option.some.inj h)
    exact So.least_calls a0 A1 l1.length c1 l1 w hr1 hl
  · cases h
end Go.Proofs.Ytdnddekoankmmaa.J
