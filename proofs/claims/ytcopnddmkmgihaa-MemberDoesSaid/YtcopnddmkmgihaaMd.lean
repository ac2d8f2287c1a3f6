/- member: the document's own table (clepsydraref14) in memory: laws on its block. -/
import Derived.Test.YtcopnddmkmgihaaMk
namespace Go.Proofs.Ytcopnddmkmgihaa.Mb
open Go.RowKit Go.Maps Go.Sort Go.Shelf Go.ChangeMaps Go.MapKept Go.Proofs.YtcopnddmkmgihaaW.PrintWords Go.Proofs.YtcopnddmkmgihaaW.PrintLast Go.Proofs.YtcopnddmkmgihaaW.PrintMore Go.Proofs.YtcopnddmkmgihaaEv Go.Proofs.YtcopnddmkmgihaaRx
set_option linter.unusedVariables false
set_option linter.unusedSimpArgs false
/-- What stands in a number's three cells. -/
def en : Option (Int × Int) → Nat → Value
  | none, 0 => .bool false
  | none, _ + 1 => .int .i64 0
  | some _, 0 => .bool true
  | some v, 1 => .int .i64 v.1
  | some v, _ + 2 => .int .i64 v.2
def arrF (f : FT) : Array Value := Array.ofFn (n := 144) fun i => en (f (i.1 / 3)) (i.1 % 3)
theorem arrF_size (f : FT) : (arrF f).size = 144 := Array.size_ofFn
theorem arrF_get (f : FT) (i : Nat) : (arrF f)[i]? = if i < 144 then some (en (f (i / 3)) (i % 3)) else none := by
  unfold arrF
  rw [Array.getElem?_ofFn]
  split <;> rfl
theorem arrF_at (f : FT) (k j : Nat) (hk : k < 48) (hj : j < 3) : (arrF f)[k * 3 + j]? = some (en (f k) j) := by
  rw [arrF_get, if_pos (by omega)]
  congr 2
  · congr 1
    omega
  · omega
theorem arrF_ext {f : FT} {cs : Array Value} (hs : cs.size = 144) (h : ∀ k j, k < 48 → j < 3 → cs[k * 3 + j]? = some (en (f k) j)) : cs = arrF f := by
  apply Array.ext_getElem?
  intro i
  by_cases hi : i < 144
  · have := h (i / 3) (i % 3) (by omega) (by omega)
    rw [show i / 3 * 3 + i % 3 = i by omega] at this
    rw [this, arrF_get, if_pos hi]
  · rw [arrF_get, if_neg hi, Array.getElem?_eq_none (by omega)]
theorem arrF_set3 (f : FT) (k : Nat) (hk : k < 48) (v : Option (Int × Int)) : (((arrF f).setIfInBounds (k * 3) (en v 0)).setIfInBounds (k * 3 + 1) (en v 1)).setIfInBounds (k * 3 + 2) (en v 2) = arrF (upd f k v) := by
  refine arrF_ext (by simp [arrF_size]) (fun i j hi hj => ?_)
  simp only [Array.getElem?_setIfInBounds, Array.size_setIfInBounds, arrF_size]
  unfold upd
  by_cases e : i = k
  · subst e
    rw [if_pos rfl]
    have : j = 0 ∨ j = 1 ∨ j = 2 := by omega
    rcases this with rfl | rfl | rfl
    · rw [if_neg (by omega), if_neg (by omega), if_pos (by omega), if_pos (by omega)]
    · rw [if_neg (by omega), if_pos rfl, if_pos (by omega)]
    · rw [if_pos rfl, if_pos (by omega)]
  · rw [if_neg (by omega), if_neg (by omega), if_neg (by omega), if_neg e, arrF_at f i j hi hj]
theorem arrF_set2 (f : FT) (k : Nat) (hk : k < 48) (a q q' : Int) (h : f k = some (a, q)) : (arrF f).setIfInBounds (k * 3 + 2) (.int .i64 q') = arrF (upd f k (some (a, q'))) := by
  refine arrF_ext (by simp [arrF_size]) (fun i j hi hj => ?_)
  simp only [Array.getElem?_setIfInBounds, arrF_size]
  unfold upd
  by_cases e : i = k
  · subst e
    rw [if_pos rfl]
    have : j = 0 ∨ j = 1 ∨ j = 2 := by omega
    rcases this with rfl | rfl | rfl
    · rw [if_neg (by omega), arrF_at f i 0 hi (by omega), h]; rfl
    · rw [if_neg (by omega), arrF_at f i 1 hi (by omega), h]; rfl
    · rw [if_pos rfl, if_pos (by omega)]; rfl
  · rw [if_neg (by omega), if_neg e, arrF_at f i j hi hj]
/-- The table in its block. -/
def RTb (w : World) (r : Nat) (f : FT) : Prop := w.heap[r]? = some (.cells (arrF f) 53 (0, 0))
theorem RTb.cell {w : World} {r : Nat} {f : FT} (h : RTb w r f) (k j : Nat) (hk : k < 48) (hj : j < 3) : w.cell? ⟨r, k * 3 + j, none⟩ = some (en (f k) j) := by
  rw [blk_cell h, arrF_at f k j hk hj]
theorem RTb.below {w w1 : World} {r : Nat} {f : FT} (h : RTb w r f) (hb : Below w.heap.size w w1) : RTb w1 r f := (hb.block r (blk_lt h)).trans h
theorem RTb.set2 {w : World} {r : Nat} {f : FT} (h : RTb w r f) {k : Nat} (hk : k < 48) {a q : Int} (hf : f k = some (a, q)) (q' : Int) : RTb (w.setCell ⟨r, k * 3 + 2, none⟩ (.int .i64 q')) r (upd f k (some (a, q'))) := by
  unfold RTb
  rw [blk_set h, arrF_set2 f k hk a q q' hf]
theorem RTb.set3 {w : World} {r : Nat} {f : FT} (h : RTb w r f) {k : Nat} (hk : k < 48) (v : Option (Int × Int)) : RTb (((w.setCell ⟨r, k * 3, none⟩ (en v 0)).setCell ⟨r, k * 3 + 1, none⟩ (en v 1)).setCell ⟨r, k * 3 + 2, none⟩ (en v 2)) r (upd f k v) := by
  unfold RTb
  have h1 := blk_set h (k * 3) (en v 0)
  have h2 := blk_set h1 (k * 3 + 1) (en v 1)
  rw [blk_set h2, arrF_set3 f k hk v]
section
variable {ops : Array Oper} {rest : List Oper} {o : Oper} {a : Act} {Q : Exit → Act → World → Prop} {w : World}
theorem info51 : (Try.prog.info? 51).map (·.size) = some 144 := by kernel_rfl
theorem info50 : (Try.prog.info? 50).map (·.size) = some 3 := by kernel_rfl
/-- The whole array is loaded. -/
theorem wl_arr_load {x : Operand} (ho : o.op = .load 51 x) (hgd : o.guard = none) {r : Nat} {f : FT} (hx : a.eval x = .pointer (some ⟨r, 0, none⟩)) (h : RTb w r f)
    (hn : wpList Try.prog ops Q rest (a.put o.dst (.agg (arrF f))) w) : wpList Try.prog ops Q (o :: rest) a w := by
  have e : (arrF f).toList.toArray = arrF f := by simp
  refine load_cells ho hgd (ad := ⟨r, 0, none⟩) (cs := (arrF f).toList) hx Try.underlying51 rfl ?_ (fun j u hu => ?_) (by rw [e]; exact hn)
  · have e2 : (arrF f).toList.length = 144 := by rw [Array.length_toList, arrF_size]
    exact info51.trans (congrArg some e2.symm)
  · rw [add_plain, blk_cell h]
    simpa using hu
/-- One of it by its place. -/
theorem wl_arr_index {x i : Operand} (ho : o.op = .index 51 x i) (hgd : o.guard = none) {k : Nat} {f : FT} (hx : a.eval x = .agg (arrF f)) (hi : a.eval i = .int .i64 k) (hk : k < 48)
    (hn : wpList Try.prog ops Q rest (a.put o.dst (.agg #[en (f k) 0, en (f k) 1, en (f k) 2])) w) : wpList Try.prog ops Q (o :: rest) a w := by
  refine wpList_plain hgd fun K hK => ?_
  have hagg : (isAgg 50).run Try.prog w = .ok true w := by
    unfold isAgg
    rw [Sem.run_bind, run_underlying Try.underlying50 w]
    rfl
  obtain ⟨q, hq, hs⟩ := Option.map_eq_some_iff.1 info50
  have hext : (arrF f).extract (k * 3) (k * 3 + 3) = #[en (f k) 0, en (f k) 1, en (f k) 2] := by
    apply Array.ext_getElem?
    intro j
    rw [Array.getElem?_extract, arrF_size]
    by_cases hj : j < 3
    · rw [if_pos (by omega), arrF_at f k j hk hj]
      have : j = 0 ∨ j = 1 ∨ j = 2 := by omega
      rcases this with rfl | rfl | rfl <;> rfl
    · rw [if_neg (by omega), Array.getElem?_eq_none (by simp; omega)]
  have hrun : (Instr.index 51 (.agg (arrF f)) (.int .i64 k)).run Try.prog w = .ok (.agg #[en (f k) 0, en (f k) 1, en (f k) 2]) w := by
    have h0 : (k : Int) < 48 := by omega
    have hsz : (sizeOf 50).run Try.prog w = .ok 3 w := by simp [sizeOf, typeInfo, hq, hs, go_sem]
    have hp : (part 50 (arrF f) (k * 3)).run Try.prog w = .ok (.agg #[en (f k) 0, en (f k) 1, en (f k) 2]) w := by
      unfold part
      rw [Sem.run_bind, hagg, Result.andThen_ok, if_pos rfl, Sem.run_bind, hsz, Result.andThen_ok, Sem.run_pure, hext]
    simp [Instr.index, run_underlying Try.underlying51, asIntOf, h0, hk, hsz, hp, go_sem]
    exact hext
  unfold Oper.wp execOp
  simp only [ho, hx, hi, Sem.run_bind, Sem.run_pure, Result.andThen_ok, hrun]
  exact hK _ _ hn
end
end Go.Proofs.Ytcopnddmkmgihaa.Mb
