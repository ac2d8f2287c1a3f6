/- AlarmOnce, plainly: the timers that are set, and which have gone off. -/
import Derived.Test.YtcopnddmkmgihaaAw
namespace Go.Proofs.Ytcopnddmkmgihaa.Ak
open Go.RowKit Go.Proofs.YtcopnddmkmgihaaW.PrintWords Go.Proofs.YtcopnddmkmgihaaW.PrintLast Go.Proofs.YtcopnddmkmgihaaW.PrintMore Go.Proofs.YtcopnddmkmgihaaEv
set_option linter.unusedVariables false
set_option linter.unusedSimpArgs false
theorem none_of {l : List (Int × Int)} {id : Int} (h : ∀ y ∈ l, y.1 ≠ id) : ¬ l.findIdx (isId id) < l.length := by
  rw [Nat.not_lt]
  refine Nat.le_of_eq ?_
  rw [eq_comm, List.findIdx_eq_length]
  intro x hx
  simpa [isId] using h x hx
/-- A new number. -/
theorem set_new {l : List (Int × Int)} {id : Int} (at_ : Int) (hl : l.length < 64) (h : ∀ y ∈ l, y.1 ≠ id) : setL l id at_ = (0, ins l (pos l (id, at_)) (id, at_)) := by
  have hf := none_of h
  unfold setL
  rw [if_neg (by omega), rem_none hf]
/-- The table behind k settings. -/
def tl (xs : List Int) : Nat → List (Int × Int)
  | 0 => []
  | k + 1 => ins (tl xs k) (pos (tl xs k) ((k : Int), rd xs k)) ((k : Int), rd xs k)
theorem mem_tl (xs : List Int) : ∀ (k : Nat) (y : Int × Int), y ∈ tl xs k ↔ ∃ i : Nat, i < k ∧ y = ((i : Int), rd xs i)
  | 0, y => by simp [tl]
  | k + 1, y => by
    unfold tl
    rw [(ins_perm _ _ _).mem_iff, List.mem_cons, mem_tl xs k y]
    constructor
    · rintro (rfl | ⟨i, hi, rfl⟩)
      · exact ⟨k, by omega, rfl⟩
      · exact ⟨i, by omega, rfl⟩
    · rintro ⟨i, hi, rfl⟩
      by_cases e : i = k
      · subst e; exact .inl rfl
      · exact .inr ⟨i, by omega, rfl⟩
theorem tl_length (xs : List Int) : ∀ k, (tl xs k).length = k
  | 0 => rfl
  | k + 1 => by unfold tl; rw [ins_length _ _ _ (pos_le _ _), tl_length xs k]
theorem tl_set (xs : List Int) (k : Nat) (hk : k < 64) : setL (tl xs k) k (rd xs k) = (0, tl xs (k + 1)) :=
  set_new (rd xs k) (by rw [tl_length]; exact hk) (fun y hy => by obtain ⟨i, hi, rfl⟩ := (mem_tl xs k y).1 hy; dsimp only; omega)
theorem tl_good (xs : List Int) : ∀ k, k ≤ 64 → Good (tl xs k)
  | 0, _ => good_nil
  | k + 1, h => by
    have := good_set (tl_good xs k (by omega)) (k : Int) (rd xs k)
    rw [tl_set xs k (by omega)] at this
    exact this
/-- Which are there are those that have not gone off. -/
structure Inv (xs : List Int) (offs : List Bool) (l : List (Int × Int)) : Prop where
  good : Good l
  len : offs.length = xs.length
  mem : ∀ y, y ∈ l ↔ ∃ i : Nat, i < xs.length ∧ offs[i]? = some false ∧ y = ((i : Int), rd xs i)
theorem inv_start (xs : List Int) (h : xs.length ≤ 64) : Inv xs (List.replicate xs.length false) (tl xs xs.length) := by
  refine ⟨tl_good xs _ h, by simp, fun y => ?_⟩
  rw [mem_tl]
  constructor
  · rintro ⟨i, hi, rfl⟩
    exact ⟨i, hi, by simp [List.getElem?_replicate, hi], rfl⟩
  · rintro ⟨i, hi, _, rfl⟩
    exact ⟨i, hi, rfl⟩
def mark (offs : List Bool) (ys : List (Int × Int)) : List Bool := ys.foldl (fun o y => o.set y.1.toNat true) offs
theorem mark_length (ys : List (Int × Int)) : ∀ offs, (mark offs ys).length = offs.length := by
  induction ys with
  | nil => intro offs; rfl
  | cons y r ih => intro offs; show (mark (offs.set y.1.toNat true) r).length = _; rw [ih, List.length_set]
theorem mark_same (ys : List (Int × Int)) (i : Nat) : ∀ offs, (∀ y ∈ ys, y.1.toNat ≠ i) → (mark offs ys)[i]? = offs[i]? := by
  induction ys with
  | nil => intro offs _; rfl
  | cons y r ih =>
    intro offs h
    show (mark (offs.set y.1.toNat true) r)[i]? = _
    rw [ih _ (fun z hz => h z (List.mem_cons_of_mem _ hz)), List.getElem?_set_ne (h y List.mem_cons_self)]
theorem mark_hit (ys : List (Int × Int)) (i : Nat) : ∀ offs, (∃ y ∈ ys, y.1.toNat = i) → (mark offs ys)[i]? ≠ some false := by
  induction ys with
  | nil => rintro offs ⟨y, hy, _⟩; cases hy
  | cons y r ih =>
    intro offs h
    show (mark (offs.set y.1.toNat true) r)[i]? ≠ _
    by_cases g : ∃ z ∈ r, z.1.toNat = i
    · exact ih _ g
    · have e : y.1.toNat = i := by
        obtain ⟨z, hz, e⟩ := h
        rcases List.mem_cons.1 hz with rfl | hz
        · exact e
        · exact absurd ⟨z, hz, e⟩ g
      rw [mark_same r i _ (fun z hz e => g ⟨z, hz, e⟩), e]
      rw [List.getElem?_set]
      simp
theorem inv_due {xs : List Int} {offs : List Bool} {l : List (Int × Int)} (h : Inv xs offs l) (now : Int) : Inv xs (mark offs (l.takeWhile (due now))) (l.dropWhile (due now)) := by
  have hl : l.takeWhile (due now) ++ l.dropWhile (due now) = l := List.takeWhile_append_dropWhile
  have hnd := h.good.nd
  rw [← hl, List.map_append, List.nodup_append] at hnd
  obtain ⟨_, _, hd⟩ := hnd
  refine ⟨good_drop h.good now, by rw [mark_length, h.len], fun y => ?_⟩
  constructor
  · intro hy
    have hy' : y ∈ l := by rw [← hl]; exact List.mem_append_right _ hy
    obtain ⟨i, hi, ho, rfl⟩ := (h.mem y).1 hy'
    refine ⟨i, hi, ?_, rfl⟩
    rw [mark_same _ i offs (fun z hz e => ?_), ho]
    have hz' : z ∈ l := by rw [← hl]; exact List.mem_append_left _ hz
    obtain ⟨j, hj, _, rfl⟩ := (h.mem z).1 hz'
    exact hd _ (List.mem_map_of_mem hz) _ (List.mem_map_of_mem hy) (by dsimp only at e ⊢; omega)
  · rintro ⟨i, hi, ho, rfl⟩
    by_cases g : ∃ z ∈ l.takeWhile (due now), z.1.toNat = i
    · exact absurd ho (mark_hit _ i offs g)
    · rw [mark_same _ i offs (fun z hz e => g ⟨z, hz, e⟩)] at ho
      have := (h.mem _).2 ⟨i, hi, ho, rfl⟩
      rw [← hl] at this
      rcases List.mem_append.1 this with q | q
      · exact absurd ⟨_, q, by simp⟩ g
      · exact q
theorem drop_late {l : List (Int × Int)} (h : Ord l) (now : Int) : ∀ y ∈ l.dropWhile (due now), now < y.2 := by
  intro y hy
  have ho : Ord (l.dropWhile (due now)) := List.Pairwise.sublist (List.dropWhile_sublist _) h
  cases hd : l.dropWhile (due now) with
  | nil => rw [hd] at hy; cases hy
  | cons x r =>
    have hx : due now x = false := by
      have := List.head?_dropWhile_not (due now) l
      rw [hd] at this
      simpa using this
    rw [hd] at hy ho
    have hx' : now < x.2 := by simpa [due] using hx
    rcases List.mem_cons.1 hy with rfl | hy
    · exact hx'
    · have := (List.pairwise_cons.1 ho).1 y hy
      simp only [less, decide_eq_true_eq] at this
      omega
theorem none_passed {xs : List Int} {offs : List Bool} {l : List (Int × Int)} {now : Int} (h : Inv xs (mark offs (l.takeWhile (due now))) (l.dropWhile (due now))) (ho : Ord l) (i : Nat) (hi : i < xs.length) (hx : rd xs i ≤ now) : (mark offs (l.takeWhile (due now)))[i]? = some true := by
  have hlt : i < (mark offs (l.takeWhile (due now))).length := by rw [h.len]; exact hi
  cases hb : (mark offs (l.takeWhile (due now)))[i]? with
  | none => rw [List.getElem?_eq_none_iff] at hb; omega
  | some b =>
    cases b with
    | true => rfl
    | false =>
      have := drop_late ho now _ ((h.mem _).2 ⟨i, hi, hb, rfl⟩)
      dsimp only at this
      omega
/-- One that goes off. -/
theorem one_off {xs : List Int} {offs : List Bool} {l : List (Int × Int)} (h : Inv xs offs l) (now : Int) (k : Nat) (hk : k < (l.takeWhile (due now)).length) :
    ∃ i : Nat, i < xs.length ∧ (l.takeWhile (due now))[k] = ((i : Int), rd xs i) ∧ (mark offs ((l.takeWhile (due now)).take k))[i]? = some false ∧ rd xs i ≤ now ∧ mark offs ((l.takeWhile (due now)).take (k + 1)) = (mark offs ((l.takeWhile (due now)).take k)).set i true ∧
      (∀ m, m + 1 = k → ∃ j : Nat, j < xs.length ∧ ∃ hm : m < (l.takeWhile (due now)).length, (l.takeWhile (due now))[m] = ((j : Int), rd xs j) ∧ rd xs j ≤ rd xs i) := by
  have hsub : (l.takeWhile (due now)).Sublist l := List.takeWhile_sublist _
  have hmem := List.getElem_mem hk
  obtain ⟨i, hi, ho, e⟩ := (h.mem _).1 (hsub.subset hmem)
  have hnd : ((l.takeWhile (due now)).map (·.1)).Nodup := List.Nodup.sublist (hsub.map _) h.good.nd
  have hor : Ord (l.takeWhile (due now)) := List.Pairwise.sublist hsub h.good.ord
  refine ⟨i, hi, e, ?_, ?_, ?_, ?_⟩
  · rw [mark_same _ i offs (fun z hz ez => ?_), ho]
    obtain ⟨m, hm, rfl⟩ := List.mem_iff_getElem.1 hz
    rw [List.length_take] at hm
    rw [List.getElem_take] at ez
    obtain ⟨j, hj, _, e2⟩ := (h.mem _).1 (hsub.subset (List.getElem_mem (show m < (l.takeWhile (due now)).length by omega)))
    rw [e2] at ez
    have hji : j = i := by dsimp only at ez; omega
    rw [List.nodup_iff_pairwise_ne, List.pairwise_iff_getElem] at hnd
    have := hnd m k (by rw [List.length_map]; omega) (by rw [List.length_map]; omega) (by omega)
    rw [List.getElem_map, List.getElem_map, e2, e, hji] at this
    exact this rfl
  · have := (List.all_eq_true.1 (List.all_takeWhile (p := due now) (l := l))) _ hmem
    rw [e] at this
    simpa [due] using this
  · rw [List.take_succ_eq_append_getElem hk, e]
    unfold mark
    rw [List.foldl_append]
    simp
  · rintro m rfl
    obtain ⟨j, hj, _, e2⟩ := (h.mem _).1 (hsub.subset (List.getElem_mem (show m < (l.takeWhile (due now)).length by omega)))
    refine ⟨j, hj, by omega, e2, ?_⟩
    have := ord_get hor (i := m) (j := m + 1) hk (by omega)
    rw [e2, e] at this
    simp only [less, decide_eq_true_eq] at this
    omega
def cnt (offs : List Bool) (k : Nat) : Nat := ((offs.take k).filter (fun b => !b)).length
theorem cnt_succ {offs : List Bool} {k : Nat} {b : Bool} (h : offs[k]? = some b) : cnt offs (k + 1) = cnt offs k + if b then 0 else 1 := by
  obtain ⟨hk, e⟩ := List.getElem?_eq_some_iff.1 h
  unfold cnt
  rw [List.take_succ_eq_append_getElem hk, e, List.filter_append, List.length_append]
  cases b <;> rfl
theorem inv_count {xs : List Int} {offs : List Bool} {l : List (Int × Int)} (h : Inv xs offs l) : l.length = cnt offs offs.length := by
  have e1 : cnt offs offs.length = ((List.range offs.length).filter (fun i => offs[i]? == some false)).length := by
    have e2 : offs = (List.range offs.length).map (fun i => offs.getD i true) := by
      apply List.ext_getElem
      · simp
      · intro i h1 h2
        simp [List.getD_eq_getElem?_getD, h1]
    unfold cnt
    rw [List.take_length]
    conv => lhs; rw [e2]
    rw [List.filter_map, List.length_map]
    congr 1
    apply List.filter_congr
    intro i hi
    rw [List.mem_range] at hi
    simp [List.getD_eq_getElem?_getD, List.getElem?_eq_getElem hi]
  rw [e1]
  have hp : (l.map (·.1)).Perm (((List.range offs.length).filter (fun i => offs[i]? == some false)).map (fun i : Nat => (i : Int))) := by
    rw [List.perm_ext_iff_of_nodup h.good.nd]
    · intro a
      constructor
      · intro ha
        obtain ⟨y, hy, rfl⟩ := List.mem_map.1 ha
        obtain ⟨i, hi, ho, rfl⟩ := (h.mem y).1 hy
        exact List.mem_map.2 ⟨i, List.mem_filter.2 ⟨List.mem_range.2 (by rw [h.len]; exact hi), by rw [ho]; rfl⟩, rfl⟩
      · intro ha
        obtain ⟨i, hi, rfl⟩ := List.mem_map.1 ha
        obtain ⟨h1, h2⟩ := List.mem_filter.1 hi
        rw [List.mem_range, h.len] at h1
        exact List.mem_map.2 ⟨_, (h.mem _).2 ⟨i, h1, by simpa using h2, rfl⟩, rfl⟩
    · exact List.Pairwise.map _ (fun a b hab e => hab (by omega)) (List.nodup_range.filter _)
  have := hp.length_eq
  rwa [List.length_map, List.length_map] at this
end Go.Proofs.Ytcopnddmkmgihaa.Ak
