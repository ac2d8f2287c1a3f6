/- What the alarm walks share: worlds that turn in some blocks alone, rows of two cells, copy and clear at elements of more than one cell. -/
import Derived.Test.YtcopnddmkmgihaaEv
import Derived.Laws.IdiomCopy
import Derived.Lib.SliceRun
import Derived.Lib.Overlaps
import Derived.Lib.AppendZerosOnto
import Derived.Deep.RegionLaw
import Derived.Laws.Externs
import Derived.Maps.AppendAt
namespace Go.Proofs.Ytcopnddmkmgihaa.Ak
open Go.RowKit Go.Proofs.YtcopnddmkmgihaaW.PrintWords Go.Proofs.YtcopnddmkmgihaaW.PrintLast Go.Proofs.YtcopnddmkmgihaaW.PrintMore Go.Proofs.YtcopnddmkmgihaaEv
set_option linter.unusedVariables false
set_option linter.unusedSimpArgs false

/-- From w to w' nothing that was there has turned but the blocks of S. -/
structure Chg (S : Nat → Prop) (w w' : World) : Prop where
  os : w'.os = w.os
  tape : w'.tape = w.tape
  output : w'.output = w.output
  size : w.heap.size ≤ w'.heap.size
  block : ∀ k, k < w.heap.size → ¬ S k → w'.heap[k]? = w.heap[k]?
theorem Chg.refl (S : Nat → Prop) (w : World) : Chg S w w := ⟨rfl, rfl, rfl, Nat.le_refl _, fun _ _ _ => rfl⟩
theorem Chg.trans {S S' : Nat → Prop} {a b c : World} (h : Chg S a b) (k : Chg S' b c) (hS : ∀ i, i < a.heap.size → S' i → S i) : Chg S a c :=
  ⟨k.os.trans h.os, k.tape.trans h.tape, k.output.trans h.output, Nat.le_trans h.size k.size, fun i hi hn => (k.block i (Nat.lt_of_lt_of_le hi h.size) (fun q => hn (hS i hi q))).trans (h.block i hi hn)⟩
theorem Chg.mono {S S' : Nat → Prop} {a b : World} (h : Chg S a b) (hS : ∀ i, i < a.heap.size → S i → S' i) : Chg S' a b := ⟨h.os, h.tape, h.output, h.size, fun i hi hn => h.block i hi (fun q => hn (hS i hi q))⟩
theorem Chg.of_below {S : Nat → Prop} {a b : World} (h : Below a.heap.size a b) : Chg S a b := ⟨h.os, h.tape, h.output, h.size, fun i hi _ => h.block i hi⟩
theorem Chg.of_grown {S : Nat → Prop} {a b : World} {row : Option Nat} (h : a.grownBy b row) (hr : ∀ k, row = some k → S k) : Chg S a b := ⟨h.os, h.tape, h.output, h.size, fun i hi hn => h.block i hi (fun e => hn (hr i e.symm))⟩
theorem Chg.below {S : Nat → Prop} {a b c : World} {n : Nat} (h : Below n a b) (g : Chg S b c) (hn : n ≤ b.heap.size) (hS : ∀ k, k < n → ¬ S k) : Below n a c :=
  ⟨g.os.trans h.os, g.tape.trans h.tape, g.output.trans h.output, Nat.le_trans h.size g.size, fun k hk => (g.block k (by omega) (hS k hk)).trans (h.block k hk)⟩
theorem Chg.to_below {S : Nat → Prop} {a b : World} (g : Chg S a b) (hS : ∀ k, k < a.heap.size → ¬ S k) : Below a.heap.size a b :=
  ⟨g.os, g.tape, g.output, g.size, fun k hk => g.block k hk (hS k hk)⟩
theorem Chg.set {S : Nat → Prop} {a b : World} (h : Chg S a b) (p : Addr) (v : Value) (hp : p.block < a.heap.size → S p.block) : Chg S a (b.setCell p v) :=
  ⟨h.os, h.tape, h.output, by simpa [World.setCell] using h.size, fun i hi hn => (Below.heap_setCell b p v i (fun e => hn (e ▸ hp (e ▸ hi)))).trans (h.block i hi hn)⟩
theorem Chg.drew {S : Nat → Prop} {a b : World} (h : Chg S a b) : Chg S a b.drew := ⟨h.os, h.tape, h.output, h.size, h.block⟩
theorem Chg.alloc {S : Nat → Prop} {a b : World} (h : Chg S a b) (o : Obj) : Chg S a (b.alloc o) := h.trans (S' := fun _ => False) (Chg.of_below (below_alloc (Below.refl _ _) o)) (fun _ _ q => q.elim)

/-! blocks whose cells are set one by one -/
theorem setCells_block (b : Nat) (e : TypeId) : ∀ (vs : List Value) (o : Nat) (w : World) (cur : Array Value), w.heap[b]? = some (.cells cur e (0, 0)) → o + vs.length ≤ cur.size →
    ∃ cur', (w.setCells b o vs).heap[b]? = some (.cells cur' e (0, 0)) ∧ cur'.size = cur.size ∧ ∀ k, cur'[k]? = if o ≤ k ∧ k < o + vs.length then vs[k - o]? else cur[k]?
  | [], o, w, cur, h, _ => ⟨cur, h, rfl, fun k => by rw [if_neg (by simp only [List.length_nil]; omega)]⟩
  | v :: r, o, w, cur, h, hl => by
    have h1 := heap_setCell_same w b o cur e v h
    obtain ⟨cur', h2, h3, h4⟩ := setCells_block b e r (o + 1) (w.setCell ⟨b, o, none⟩ v) _ h1 (by simp at hl ⊢; omega)
    refine ⟨cur', h2, by rw [h3]; simp, fun k => ?_⟩
    rw [h4 k]
    simp only [List.length_cons] at hl ⊢
    by_cases g : o + 1 ≤ k ∧ k < o + 1 + r.length
    · rw [if_pos g, if_pos (by omega), show k - o = (k - (o + 1)) + 1 by omega, List.getElem?_cons_succ]
    · rw [if_neg g]
      by_cases g2 : k = o
      · subst g2
        rw [if_pos (by omega), Nat.sub_self, List.getElem?_cons_zero]
        rw [Array.getElem?_setIfInBounds, if_pos rfl, if_pos (by omega)]
      · rw [if_neg (by omega)]
        rw [Array.getElem?_setIfInBounds, if_neg (by omega)]
theorem setCells_chg (b : Nat) {S : Nat → Prop} {a : World} : ∀ (vs : List Value) (o : Nat) (w : World), Chg S a w → (b < a.heap.size → S b) → Chg S a (w.setCells b o vs)
  | [], _, _, h, _ => h
  | v :: r, o, w, h, hb => setCells_chg b r (o + 1) _ (h.set ⟨b, o, none⟩ v hb) hb
theorem size_setCells (b : Nat) : ∀ (vs : List Value) (o : Nat) (w : World), (w.setCells b o vs).heap.size = w.heap.size
  | [], _, _ => rfl
  | v :: r, o, w => by rw [World.setCells, size_setCells b r]; simp [World.setCell]
theorem setCells_other (b : Nat) : ∀ (vs : List Value) (o : Nat) (w : World) (k : Nat), k ≠ b → (w.setCells b o vs).heap[k]? = w.heap[k]?
  | [], _, _, _, _ => rfl
  | v :: r, o, w, k, h => by rw [World.setCells, setCells_other b r (o + 1) _ k h, Below.heap_setCell w ⟨b, o, none⟩ v k h]

/-! copy and clear at elements of more than one cell -/
section
variable {P : Program}
theorem run_copy_cells2 (w : World) (dT sT ty elem : TypeId) (size : Nat) (b o dLen dCap : Nat) (a : Addr) (sLen sCap : Nat) (cs : List Value)
    (hu : P.underlying dT = some (.slice elem)) (hs : (P.info? elem).map (·.size) = some size) (hn : cs.length = Nat.min sLen dLen * size)
    (hsrc : ∀ j v, cs[j]? = some v → w.cell? (a.add j) = some v) (hc : ∀ j, j < cs.length → (w.cell? ⟨b, o + j, none⟩).isSome = true) (hf : ∀ j, j < cs.length → w.frozen? ⟨b, o + j, none⟩ = false) (h1 : ∀ v ∈ cs, v.oneCell' = true) :
    (Builtin.copy_ #[dT, sT] ty #[.slice (some ⟨b, o, none⟩) dLen dCap, .slice (some a) sLen sCap]).run P w = .ok (goInt (Nat.min sLen dLen)) (w.setCells b o cs) := by
  have hl := run_loadCells_list (P := P) w a cs hsrc
  have hst := run_storeCells_cells (P := P) b o cs 0 w (by simpa using hc) (by simpa using hf) h1
  cases hq : P.info? elem with
  | none => simp [hq] at hs
  | some i =>
    have hi : i.size = size := by simpa [hq] using hs
    simp [Builtin.copy_, run_underlying hu, Builtin.lenOf, Builtin.firstCells, sizeOf, typeInfo, hq, hi, ← hn, hl, hst]
theorem zeroCells_list (z : Value) (x : Value) (m n : Nat) (hz : z.cells = (List.replicate m x).toArray) : (Builtin.zeroCells z.cells n).toList = List.replicate (n * m) x := by
  rw [hz]
  apply List.ext_getElem
  · simp [Builtin.zeroCells]
  · intro i h1 h2
    have hm : 0 < m := by
      rcases Nat.eq_zero_or_pos m with h | h
      · subst h; simp at h2
      · exact h
    simp [Builtin.zeroCells]
    rw [getElem!_pos _ _ (by simp; exact Nat.mod_lt _ hm)]
    simp
theorem run_clear_slice2 (w : World) (t e ty : TypeId) (z x : Value) (m : Nat) (ht : P.underlying t = some (.slice e)) (hv : ∀ w, (zeroValue e).run P w = .ok z w) (hz : z.cells = (List.replicate m x).toArray) (h1 : x.oneCell' = true) (b o n c : Nat) (hn : 0 < n)
    (hc : ∀ j, j < n * m → (w.cell? ⟨b, o + j, none⟩).isSome = true) (hf : ∀ j, j < n * m → w.frozen? ⟨b, o + j, none⟩ = false) :
    (Builtin.clear_ #[t] ty #[.slice (some ⟨b, o, none⟩) n c]).run P w = .ok (.tuple #[]) (w.setCells b o (List.replicate (n * m) x)) := by
  have hzc := zeroCells_list z x m n hz
  have hst := run_storeCells_cells (P := P) b o (List.replicate (n * m) x) 0 w (by simpa using hc) (by simpa using hf) (by intro v hv'; rw [List.eq_of_mem_replicate hv']; exact h1)
  simp only [Nat.add_zero] at hst
  obtain ⟨q, rfl⟩ : ∃ q, n = q + 1 := ⟨n - 1, by omega⟩
  simp [Builtin.clear_, run_underlying ht, hv, hzc, hst]
end
end Go.Proofs.Ytcopnddmkmgihaa.Ak
