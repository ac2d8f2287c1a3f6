/- More laws for walks over frames: a row that a call hands back; a cell that is loaded inside a region that draws its order. -/
import Derived.Test.YtdabedknidkimaaDoorEv
namespace Go.Proofs.YtdabedknidkimaaDoorEv
open Go.RowKit Go.Proofs.YtdabedknidkimaaDoorW.PrintWords Go.Proofs.YtdabedknidkimaaDoorW.PrintLast Go.Proofs.YtdabedknidkimaaDoorW.PrintMore
theorem Fr.callR {α : Type} {d : Kd α} {e : Nat} {A : Nat → Prop} {w W W1 : World} {bl : List (Nat × TypeId × Array Value)} {p : World → Prop} {ok : Nat → Prop} {v : Value} {xs : List α} (h : Fr A w W bl p) (hB : Below W.heap.size W W1) (hR : d.R e W1 W.heap.size ok v xs) :
    ∃ A1 c, v = .slice A1 xs.length c ∧ xs.length ≤ c ∧ Fr A w W1 bl (fun W => p W ∧ d.C W A1 xs.length xs) := by
  obtain ⟨A1, c, rfl, hc, _⟩ := Kd.R_reads hR
  refine ⟨A1, c, rfl, hc, h.call2 hB (Foot.mono (Kd.R_F (Kd.R_bound hR)) ?_)⟩
  intro k hk hq
  have := h.avs k hq
  have := hk.2.1
  omega
section
variable {P : Program} {ops : Array Oper} {rest : List Oper} {o : Oper} {a : Act} {Q : Act → Prop} {A : Nat → Prop} {w : World} {bl bl' : List (Nat × TypeId × Array Value)} {p : World → Prop}
theorem q_cell (hw : Region.wanted o (yielded ops a.tmps) = true) {ty : TypeId} {x : Operand} (ho : o.op = .load ty x) {ad : Addr} {d : TypeDesc} {v : Value}
    (hx : a.eval x = .pointer (some ad)) (hu : P.underlying ty = some d) (hd : (match d with | .struct _ | .array _ _ => true | _ => false) = false) (hc : ∀ W, p W → W.cell? ad = some v)
    (h : wpQuiet P ops (Frs A w bl p) Q rest (a.put o.dst v)) : wpQuiet P ops (Frs A w bl p) Q (o :: rest) a := by
  refine wpQuiet_step fun K hK => ?_
  rw [if_pos hw]
  refine ⟨v, fun W HW => ?_, hK _ h⟩
  have hcc : W.cell? ad = some v := hc W (Fr.now HW)
  have hagg : (isAgg ty).run P W = .ok false W := by
    unfold isAgg
    rw [Sem.run_bind, run_underlying hu W]
    cases d <;> simp_all
  have hlv : (loadVar ty ad).run P W = .ok v W := by simp [loadVar, Sem.run_bind, hagg, hcc]
  unfold Oper.quietAt execOp
  simp only [ho, hx, Instr.loadAt, Instr.sureAddr, Sem.run_bind, Sem.run_pure, Result.andThen_ok, hlv]
  exact ⟨rfl, rfl⟩
end
/-- The first of a row of numbers. -/
theorem first_cell {W : World} {A1 : Option Addr} {y : Int} (h : Kd.C (Kd.int .i64) W A1 1 [y]) : ∃ ad, A1 = some ad ∧ W.cell? ad = some (.int .i64 y) := by
  obtain ⟨_, _, hp⟩ := h
  obtain ⟨ad, rfl, hrow⟩ := hp (by decide)
  obtain ⟨c, hcl, hK, hcc⟩ := hrow 0 y rfl
  have hK' : c = [Value.int .i64 y] := hK
  refine ⟨ad, rfl, ?_⟩
  have := hcc 0 (.int .i64 y) (by rw [hK']; rfl)
  have e : ad.add 0 = ad := by
    first
    | rfl
    | (unfold Addr.add; simp; done)
    | (cases ad; simp [Addr.add]; done)
    | (unfold Addr.add; split <;> simp_all)
  simpa [e] using this
end Go.Proofs.YtdabedknidkimaaDoorEv
