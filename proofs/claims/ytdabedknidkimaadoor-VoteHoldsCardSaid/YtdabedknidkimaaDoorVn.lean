/- vote: the parameters as one row of cells. -/
import Derived.Test.YtdabedknidkimaaDoorVm
namespace Go.Proofs.YtdabedknidkimaaDoor.Vt
open Go.RowKit Go.Proofs.YtdabedknidkimaaDoorW.PrintWords Go.Proofs.YtdabedknidkimaaDoorW.PrintLast Go.Proofs.YtdabedknidkimaaDoorW.PrintMore Go.Proofs.YtdabedknidkimaaDoorEv Go.Proofs.YtdabedknidkimaaDoor.X
set_option linter.unusedVariables false
set_option linter.unusedSimpArgs false
/-- The parameters' cells, F among them. -/
def PR (F : Int) (cs : Array Value) : Prop := ∃ a0 a2 a3 a4 a5 a6 a7 a8 a9 a10 a11 : Int, cs = #[.int .i64 a0, .int .i64 F, .int .i64 a2, .int .i64 a3, .int .i64 a4, .int .i64 a5, .int .i64 a6, .int .i64 a7, .int .i64 a8, .int .i64 a9, .int .i64 a10, .int .i64 a11]
theorem PR.one {F : Int} {cs : Array Value} (h : PR F cs) : cs[1]? = some (.int .i64 F) := by
  obtain ⟨a0, a2, a3, a4, a5, a6, a7, a8, a9, a10, a11, rfl⟩ := h
  rfl
theorem PR.size {F : Int} {cs : Array Value} (h : PR F cs) : cs.size = 12 := by
  obtain ⟨a0, a2, a3, a4, a5, a6, a7, a8, a9, a10, a11, rfl⟩ := h
  rfl
theorem PR.cells {F : Int} {cs : Array Value} {W : World} {pb : Nat} (hb : W.heap[pb]? = some (.cells cs 29 (0, 0))) : ∀ j u, cs.toList[j]? = some u → W.cell? ((⟨pb, 0, none⟩ : Addr).add j) = some u := fun j u hu => by
  rw [add_plain, blk_cell hb]
  simpa using hu
theorem PR.cell {F : Int} {cs : Array Value} {W : World} {pb : Nat} (h : PR F cs) (hb : W.heap[pb]? = some (.cells cs 29 (0, 0))) : W.cell? ⟨pb, 1, none⟩ = some (.int .i64 F) := by
  rw [blk_cell hb, h.one]
theorem adopt_pr {F : Int} {cs : Array Value} (h : PR F cs) (A0 : Option Addr) (c0 : Nat) (own : List S37) (n0 : Nat) (A1 : Option Addr) (c1 : Nat) (ts : List (List S37)) (n1 : Nat) (w : World) (hr0 : Kd.C k37 w A0 own.length own) (hr1 : Kd.C (Kd.slice 37 k37) w A1 ts.length ts) (ht : Tb w) (hown : own.length ≤ 4096) (hok : ∀ t ∈ ts, okT t) (hl : ts.length ≤ 4096) (hn0 : own.length = n0) (hn1 : ts.length = n1)
    (l : List S37) (b : Bool) (m : Nat) (hr : adoptP F own ts = (l, b)) (hm : l.length = m) :
    Calls Tryd.prog 13 #[.agg cs, .slice A0 n0 c0, .slice A1 n1 c1] w fun e w' => ∃ A c, e = .returned (.tuple #[.slice A m c, .bool b]) ∧ Hid (m ≤ c) ∧ Hid (Kd.C k37 w' A l.length l) ∧ Hid (w'.ownsRow w.heap.size 37 2 (.slice A m c) m (fl37 l)) ∧ Hid (Below w.heap.size w w') := by
  obtain ⟨a0, a2, a3, a4, a5, a6, a7, a8, a9, a10, a11, rfl⟩ := h
  exact adopt_to _ _ _ _ _ _ _ _ _ _ _ _ A0 c0 own n0 A1 c1 ts n1 w hr0 hr1 ht hown hok hl hn0 hn1 l b m hr hm
theorem refadopt_pr {F : Int} {cs : Array Value} (h : PR F cs) (A1 : Option Addr) (c1 : Nat) (ts : List (List S37)) (n1 : Nat) (hn1 : ts.length = n1) (w : World) (hr1 : Kd.C (Kd.slice 37 k37) w A1 ts.length ts) (hc1 : ts.length ≤ c1) (hs : small ts) (z : Int) (hz : adI ts ts.length 0 (-1) F = z) :
    Calls Tryd.prog 14 #[.agg cs, .slice A1 n1 c1] w fun e w' => e = .returned (.int .i64 z) ∧ Hid (Below w.heap.size w w') := by
  obtain ⟨a0, a2, a3, a4, a5, a6, a7, a8, a9, a10, a11, rfl⟩ := h
  exact refadopt_to _ _ _ _ _ _ _ _ _ _ _ _ A1 c1 ts n1 hn1 w hr1 hc1 hs z hz
end Go.Proofs.YtdabedknidkimaaDoor.Vt
