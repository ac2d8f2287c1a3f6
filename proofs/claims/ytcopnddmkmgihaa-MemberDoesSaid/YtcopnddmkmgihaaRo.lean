/- What an argument of whatever depth reads as: its cells, in the kinds of the printed words, and the bounds that a row's own weights give. -/
import Derived.Test.YtcopnddmkmgihaaWWords
import Derived.SizedLaws
import Derived.ChangeArms
import Derived.WideShapes
import Derived.ShutString
import Derived.ChangeSlices
import Derived.ProofKit
namespace Go.Proofs.YtcopnddmkmgihaaRo
open Go.Proofs.YtcopnddmkmgihaaW.PrintWords Go.ChangeShapes Go.WideShapes

/-- A type reads, as cells, in a kind; of what is read holds wf. -/
structure Opn {α : Type} (P : Program) (d : Kd α) (t : TypeId) (wf : α → Prop) : Prop where
  sz : P.cellsOf t = d.sz
  op : ∀ {H : Type} {enc : TypeId × Value → H} {w : World} {base : Nat} {spare : Nat → Bool} {held : Bool} {fuel : Nat} {cs : List Value} {x : DataW H × List MemPlace},
    DataW.trod enc P w base spare held fuel t cs = some x → (∀ n ∈ x.1.weights P t, n ≤ reachBytes) → ∃ a : α, d.K w a cs ∧ wf a

theorem Opn.int {P : Program} {t : TypeId} {k : IntKind} (ht : P.underlying t = some (.int k)) (hc : P.cellsOf t = 1) : Opn P (Kd.int k) t (fun n => (Lit.int k n).wf = true) := by
  refine ⟨hc, ?_⟩
  intro H enc w base spare held fuel cs x h _
  obtain ⟨n, rfl, _, hw⟩ := DataW.trod_int ht h
  exact ⟨n, rfl, hw⟩
theorem Opn.bool {P : Program} {t : TypeId} (ht : P.underlying t = some .bool) (hc : P.cellsOf t = 1) : Opn P Kd.bool t (fun _ => True) := by
  refine ⟨hc, ?_⟩
  intro H enc w base spare held fuel cs x h _
  obtain ⟨n, rfl, _⟩ := DataW.trod_bool ht h
  exact ⟨n, rfl, trivial⟩
theorem Opn.string {P : Program} {t : TypeId} (ht : P.underlying t = some .string) (hc : P.cellsOf t = 1) : Opn P Kd.string t (fun s => s.size ≤ 140737488351232) := by
  refine ⟨hc, ?_⟩
  intro H enc w base spare held fuel cs x h hs
  obtain ⟨s, rfl, rfl, _⟩ := DataW.trod_string ht h
  refine ⟨s, rfl, ?_⟩
  have z := hs s.data.toList.length (by simp [DataW.weights])
  rw [Array.length_toList] at z
  exact z

/-- A list out of what there is at each place. -/
theorem list_of {α : Type} {Q : Nat → α → Prop} : ∀ (n : Nat), (∀ i, i < n → ∃ a, Q i a) → ∃ xs : List α, xs.length = n ∧ ∀ i p, xs[i]? = some p → Q i p := by
  intro n
  induction n with
  | zero => intro _; exact ⟨[], rfl, fun i p h => by simp at h⟩
  | succ n ih =>
    intro h
    obtain ⟨xs, hl, hx⟩ := ih (fun i hi => h i (by omega))
    obtain ⟨a, ha⟩ := h n (by omega)
    refine ⟨xs ++ [a], by simp [hl], fun i p hp => ?_⟩
    rcases Nat.lt_or_ge i n with hi | hi
    · rw [List.getElem?_append_left (by omega)] at hp
      exact hx i p hp
    · rw [List.getElem?_append_right (by omega)] at hp
      have hi' : i - xs.length = 0 := by
        have := (List.getElem?_eq_some_iff.1 hp).1
        simpa using this
      rw [hi'] at hp
      have e : a = p := by simpa using hp
      subst e
      have : i = n := by omega
      subst this
      exact ha

theorem weights_all {H : Type} {P : Program} {e : TypeId} : ∀ {l : List (DataW H)} {d : DataW H}, d ∈ l → ∀ n ∈ d.weights P e, n ∈ DataW.weightsAll P e l := by
  intro l
  induction l with
  | nil => intro d h; simp at h
  | cons a l ih =>
    intro d h n hn
    simp only [DataW.weightsAll, List.mem_append]
    rcases List.mem_cons.1 h with rfl | h
    · exact .inl hn
    · exact .inr (ih h n hn)

theorem Opn.slice {α : Type} {P : Program} {t e : TypeId} {d : Kd α} {wf : α → Prop} {B : Nat} (ht : P.underlying t = some (.slice e)) (hc : P.cellsOf t = 1) (hB : P.bytesOf e = B) (hd : Opn P d e wf) :
    Opn P (Kd.slice e d) t (fun xs => xs.length ≤ maxLen ∧ xs.length * B ≤ 140737488351232 ∧ ∀ x ∈ xs, wf x) := by
  refine ⟨hc, ?_⟩
  intro H enc w base spare held fuel cs x h hs
  rcases DataW.trod_slice ht h with ⟨rfl, rfl⟩ | ⟨a, len, cap, elems, rest, m, _, rfl, rfl, hb, hl, hm, hlen, hel, _, _⟩
  · exact ⟨[], ⟨none, 0, rfl, Nat.le_refl _, rfl, by simp, fun h => by simp at h⟩, by simp, by simp, by simp⟩
  · have each : ∀ i, i < len → ∃ p : α, (∃ c, c.length = d.sz ∧ d.K w p c ∧ ∀ j u, c[j]? = some u → w.cell? (a.add (i * d.sz + j)) = some u) ∧ wf p := by
      intro i hi
      have hy : elems[i]? = some (elems[i]'(by omega)) := List.getElem?_eq_getElem (by omega)
      have hb' := hel i hi
      rw [hy, Option.bind_eq_some_iff] at hb'
      obtain ⟨c, hcs, hy'⟩ := hb'
      have hws : ∀ n ∈ (elems[i]'(by omega)).1.weights P e, n ≤ reachBytes := by
        intro n hn
        refine hs n ?_
        simp only [DataW.weights, ht, List.mem_cons, List.mem_append]
        exact .inr (.inl (weights_all (List.mem_map_of_mem (List.getElem_mem (by omega))) n hn))
      obtain ⟨p, hK, hw⟩ := hd.op hy' hws
      refine ⟨p, ⟨c, d.K_len hK, hK, ?_⟩, hw⟩
      intro j u hu
      obtain ⟨_, h2, h3⟩ := World.cells?_some hcs
      have hj : j < P.cellsOf e := by have := (List.getElem?_eq_some_iff.1 hu).1; omega
      have h4 := h3 j hj
      rw [hu, hd.sz] at h4
      rw [← h4, add_add]
    obtain ⟨xs, hxl, hxs⟩ := list_of len each
    subst hxl
    have hm' : cap ≤ 9223372036854775807 := hm
    refine ⟨xs, ⟨some a, cap, rfl, hl, rfl, by omega, fun _ => ⟨a, rfl, fun j p hj => (hxs j p hj).1⟩⟩, by omega, ?_, ?_⟩
    · have z := hs ((elems.length + rest.length) * P.bytesOf e) (by simp [DataW.weights, ht])
      rw [hB] at z
      exact Nat.le_trans (Nat.mul_le_mul_right _ (by omega)) z
    · intro p hp
      obtain ⟨i, hi⟩ := List.getElem?_of_mem hp
      exact (hxs i p hi).2

theorem Opn.iso {α β : Type} {P : Program} {t : TypeId} {d : Kd α} {wf : α → Prop} (f : β → α) (g : α → β) (hfg : ∀ x, f (g x) = x) (h : Opn P d t wf) : Opn P (Kd.iso d f) t (fun y => wf (f y)) := by
  refine ⟨h.sz, ?_⟩
  intro H enc w base spare held fuel cs x hx hs
  obtain ⟨a, hK, hw⟩ := h.op hx hs
  exact ⟨g a, by show d.K w (f (g a)) cs; rw [hfg]; exact hK, by show wf (f (g a)); rw [hfg]; exact hw⟩

/-- A struct's fields from a place on. -/
structure OpnF {α : Type} (P : Program) (d : Kd α) (fs : List Field) (off : Nat) (wf : α → Prop) : Prop where
  op : ∀ {H : Type} {enc : TypeId × Value → H} {w : World} {base : Nat} {spare : Nat → Bool} {held : Bool} {m : Nat} {cs : List Value} {xs : List (DataW H × List MemPlace)},
    xs.length = fs.length → (∀ (i : Nat) (f : Field), fs[i]? = some f → DataW.trod enc P w base spare held m f.type ((cs.drop f.offset).take (P.cellsOf f.type)) = xs[i]?) →
    (∀ n ∈ DataW.weightsEach P (fs.map (·.type)) (xs.map (·.1)), n ≤ reachBytes) → ∃ a : α, d.K w a ((cs.drop off).take d.sz) ∧ wf a

theorem OpnF.one {α : Type} {P : Program} {d : Kd α} {f : Field} {off : Nat} {wf : α → Prop} (h : Opn P d f.type wf) (ho : f.offset = off) : OpnF P d [f] off wf := by
  refine ⟨?_⟩
  intro H enc w base spare held m cs xs hl hx hs
  match xs, hl with
  | [y], _ =>
    have h0 := hx 0 f rfl
    rw [ho, h.sz] at h0
    exact h.op h0 (fun n hn => hs n (by simp [DataW.weightsEach, hn]))
theorem OpnF.cons {α β : Type} {P : Program} {a : Kd α} {b : Kd β} {f : Field} {fs : List Field} {off : Nat} {wa : α → Prop} {wb : β → Prop} (h : Opn P a f.type wa) (ho : f.offset = off) (hr : OpnF P b fs (off + a.sz) wb) :
    OpnF P (Kd.pair a b) (f :: fs) off (fun x => wa x.1 ∧ wb x.2) := by
  refine ⟨?_⟩
  intro H enc w base spare held m cs xs hl hx hs
  match xs, hl with
  | y :: ys, hl =>
    have h0 := hx 0 f rfl
    rw [ho, h.sz] at h0
    obtain ⟨x, hK, hw⟩ := h.op h0 (fun n hn => hs n (by simp [DataW.weightsEach, hn]))
    obtain ⟨z, hK2, hw2⟩ := hr.op (xs := ys) (cs := cs) (by simpa using hl) (fun i f' hf => hx (i + 1) f' hf) (fun n hn => hs n (by
      simp only [List.map_cons, DataW.weightsEach, List.mem_append]
      exact .inr hn))
    refine ⟨(x, z), ⟨_, _, ?_, hK, hK2⟩, hw, hw2⟩
    show (cs.drop off).take (a.sz + b.sz) = _
    rw [List.take_add, List.drop_drop]
theorem Opn.struct {α : Type} {P : Program} {d : Kd α} {t : TypeId} {fs : Array Field} {wf : α → Prop} (ht : P.underlying t = some (.struct fs)) (hc : P.cellsOf t = d.sz) (h : OpnF P d fs.toList 0 wf) : Opn P d t wf := by
  refine ⟨hc, ?_⟩
  intro H enc w base spare held fuel cs x hx hs
  obtain ⟨xs, n, _, rfl, hl, hxl, hf⟩ := DataW.trod_struct ht hx
  obtain ⟨a, hK, hw⟩ := h.op (xs := xs) (cs := cs) (by simpa using hxl) (fun i f hi => hf i f (by simpa using hi)) (fun n hn => hs n (by simpa [DataW.weights, ht] using hn))
  refine ⟨a, ?_, hw⟩
  rw [List.drop_zero, ← hc, ← hl, List.take_length] at hK
  exact hK

/-- A parameter: what its value is, cell for cell. -/
theorem open_any {α : Type} {P : Program} {d : Kd α} {t : TypeId} {wf : α → Prop} (ho : Opn P d t wf) {H : Type} {enc : TypeId × Value → H} {w : World} {base : Nat} {spare : Nat → Bool} {held : Bool} {v : Value} {x : DataW H} {ps : List MemPlace} {ts : List TypeId} {ds : List (DataW H)} {j : Nat}
    (hsz : (DataW.weightsEach P ts ds).all (· ≤ reachBytes) = true) (ht : ts[j]? = some t) (hd : ds[j]? = some x) (h : DataW.Trod enc P w base spare held t v x ps) : ∃ a : α, d.K w a v.cells.toList ∧ wf a := by
  obtain ⟨fuel, hf⟩ := h
  exact ho.op hf (fun n hn => by simpa using List.all_eq_true.1 hsz n (DataW.weights_mem_each ht hd n hn))
theorem trod_lt' {H : Type} {enc : TypeId × Value → H} {P : Program} {w : World} {base : Nat} {spare : Nat → Bool} {held : Bool} {t : TypeId} {v : Value} {x : DataW H} {ps : List MemPlace} (h : DataW.Trod enc P w base spare held t v x ps) : ∀ y ∈ ps, y.block < w.heap.size := by
  obtain ⟨m, hm⟩ := h
  exact DataW.trod_lt m _ _ _ hm
theorem agg_cells {P : Program} {w : World} {r : Reach} {base : Nat} {t : TypeId} {v : Value} {fs : Array Field} {l : List Value} (hu : P.underlying t = some (.struct fs)) (hv : Value.okWide P w r base t v) (hl : v.cells.toList = l) : v = .agg l.toArray := by
  obtain ⟨cs, rfl, _⟩ := okWide_struct hu hv
  subst hl
  rfl
end Go.Proofs.YtcopnddmkmgihaaRo
