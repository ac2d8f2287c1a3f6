/- member: a call of the script; a step of it. -/
import Derived.Test.YtcopnddmkmgihaaMl
namespace Go.Proofs.Ytcopnddmkmgihaa.Mb
open Go.RowKit Go.Maps Go.Sort Go.Shelf Go.ChangeMaps Go.MapKept Go.Proofs.YtcopnddmkmgihaaW.PrintWords Go.Proofs.YtcopnddmkmgihaaW.PrintLast Go.Proofs.YtcopnddmkmgihaaW.PrintMore Go.Proofs.YtcopnddmkmgihaaEv Go.Proofs.YtcopnddmkmgihaaRx
set_option linter.unusedVariables false
set_option linter.unusedSimpArgs false
structure S55 where
  f0 : Int
  f1 : Int
def z55 : S55 := ⟨0, 0⟩
def k55 : Kd S55 := Kd.iso (Kd.pair (Kd.int .i64) (Kd.int .i64)) (fun x : S55 => (x.f0, x.f1))
theorem k55_open {w : World} {x : S55} {cs : List Value} (h : k55.K w x cs) : cs = [.int .i64 x.f0, .int .i64 x.f1] := by
  obtain ⟨_, _, rfl, rfl, rfl⟩ := h
  exact rfl
def rd55 (xs : List S55) (i : Nat) : S55 := xs.getD i z55
theorem in55 {w0 w : World} {A : Option Addr} {xs : List S55} (h : Kd.C k55 w0 A xs.length xs) (hb : Below w0.heap.size w0 w) (k : Nat) (hk : k < xs.length) :
    ∃ ad, A = some ad ∧ ∀ j u, [Value.int .i64 (rd55 xs k).f0, .int .i64 (rd55 xs k).f1][j]? = some u → w.cell? ((ad.add (k * 2)).add j) = some u := by
  obtain ⟨ad, c, e, _, hK, hc⟩ := Kd.C_get h z55 k (by omega) (by omega)
  have e2 := k55_open hK
  refine ⟨ad, e, fun j u hu => ?_⟩
  rw [add_add]
  refine pw_cell_below hb ?_
  have : w0.cell? (ad.add ((k : Int).toNat * 2 + j)) = some u := hc j u (by rw [e2]; exact hu)
  simpa using this
/-- What is known of a script. -/
abbrev Wf55 (l : List S55) : Prop := (l.length ≤ maxLen ∧ l.length * 16 ≤ 140737488351232 ∧ ∀ x0_ ∈ l, ((Lit.int .i64 x0_.f0).wf = true ∧ (Lit.int .i64 x0_.f1).wf = true))
theorem wf_i64 {a : Int} (h : (Lit.int .i64 a).wf = true) : -9223372036854775808 ≤ a ∧ a ≤ 9223372036854775807 := by
  have h2 : (decide ((-9223372036854775808 : Int) ≤ a) && decide (a ≤ (9223372036854775807 : Int))) = true := h
  rw [Bool.and_eq_true, decide_eq_true_eq, decide_eq_true_eq] at h2
  exact h2
theorem rd55_wf {l : List S55} (h : Wf55 l) (k : Nat) : -9223372036854775808 ≤ (rd55 l k).f1 ∧ (rd55 l k).f1 ≤ 9223372036854775807 := by
  unfold rd55
  rw [List.getD_eq_getElem?_getD]
  cases e : l[k]? with
  | none => exact ⟨by decide, by decide⟩
  | some x => exact wf_i64 (h.2.2 x (List.mem_of_getElem? e)).2
theorem St.grew {w0 w : World} {t b : Nat} {f : FT} (h : St w0 w t b f) (o : Obj) : St w0 (w.alloc o) t b f := h.keep (below_alloc (Below.refl _ _) _)
theorem hearF_range {f : FT} {who : Int} (h : (hearF f who).1 = 0) : 0 ≤ who ∧ who < 48 := by
  unfold hearF at h
  split at h
  · assumption
  · cases h
end Go.Proofs.Ytcopnddmkmgihaa.Mb
