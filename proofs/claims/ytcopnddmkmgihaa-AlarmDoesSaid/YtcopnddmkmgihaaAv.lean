/- alarm: the contracts as the laws use them; alive. -/
import Derived.Test.YtcopnddmkmgihaaAu
namespace Go.Proofs.Ytcopnddmkmgihaa.Ak
open Go.RowKit Go.Proofs.YtcopnddmkmgihaaW.PrintWords Go.Proofs.YtcopnddmkmgihaaW.PrintLast Go.Proofs.YtcopnddmkmgihaaW.PrintMore Go.Proofs.YtcopnddmkmgihaaEv
set_option linter.unusedVariables false
set_option linter.unusedSimpArgs false
/-- In order, each number once. -/
structure Good (l : List (Int × Int)) : Prop where
  ord : Ord l
  nd : (l.map (·.1)).Nodup
theorem good_nil : Good [] := ⟨List.Pairwise.nil, List.nodup_nil⟩
theorem good_rem {l : List (Int × Int)} (h : Good l) (id : Int) : Good (rem l id) :=
  ⟨rem_ord h.ord id, List.Nodup.sublist (List.Sublist.map _ (List.eraseIdx_sublist _ _)) h.nd⟩
theorem rem_not {l : List (Int × Int)} (h : Good l) (id : Int) : ∀ y ∈ rem l id, y.1 ≠ id := by
  intro y hy e
  unfold rem at hy
  by_cases hf : l.findIdx (isId id) < l.length
  · have h1 : (l[l.findIdx (isId id)]).1 = id := by
      have := List.findIdx_getElem (w := hf)
      simpa [isId] using this
    obtain ⟨j, hj, e2⟩ := List.mem_iff_getElem.1 hy
    rw [List.getElem_eraseIdx] at e2
    have hnd := h.nd
    rw [List.nodup_iff_pairwise_ne, List.pairwise_iff_getElem] at hnd
    have key : ∀ (a b : Nat) (ha : a < l.length) (hb : b < l.length), l[a].1 = id → l[b].1 = id → a = b := by
      intro a b ha hb ea eb
      rcases Nat.lt_trichotomy a b with q | q | q
      · have := hnd a b (by simpa using ha) (by simpa using hb) q
        simp [ea, eb] at this
      · exact q
      · have := hnd b a (by simpa using hb) (by simpa using ha) q
        simp [ea, eb] at this
    rw [List.length_eraseIdx_of_lt hf] at hj
    split at e2
    · rename_i hji
      have := key j _ (by omega) hf (by rw [e2]; exact e) h1
      omega
    · rename_i hji
      have := key (j + 1) _ (by omega) hf (by rw [e2]; exact e) h1
      omega
  · rw [List.eraseIdx_of_length_le (by omega)] at hy
    have : l.findIdx (isId id) = l.length := Nat.le_antisymm List.findIdx_le_length (by omega)
    rw [List.findIdx_eq_length] at this
    have := this y hy
    simp [isId, e] at this
theorem ord_ins {l : List (Int × Int)} {x : Int × Int} (h : Ord l) (hx : ∀ y ∈ l, y.1 ≠ x.1) : Ord (ins l (pos l x) x) := by
  have hle := pos_le l x
  unfold ins Ord
  have h1 : ∀ y ∈ l.take (pos l x), less y x = true := by
    intro y hy
    obtain ⟨j, hj, rfl⟩ := List.mem_iff_getElem.1 hy
    rw [List.length_take] at hj
    rw [List.getElem_take]
    have := List.not_of_lt_findIdx (p := fun y => !less y x) (xs := l) (i := j) (by unfold pos at hj; omega)
    simpa using this
  have h2 : ∀ y ∈ l.drop (pos l x), less x y = true := by
    intro y hy
    obtain ⟨j, hj, rfl⟩ := List.mem_iff_getElem.1 hy
    rw [List.length_drop] at hj
    rw [List.getElem_drop]
    have hp : pos l x < l.length := by omega
    have h3 : less l[pos l x] x = false := by
      have := List.findIdx_getElem (p := fun y => !less y x) (xs := l) (w := hp)
      unfold pos
      simpa using this
    have h4 : less l[pos l x + j] x = false := by
      rcases Nat.eq_zero_or_pos j with q | q
      · subst q; exact h3
      · cases hl : less l[pos l x + j] x with
        | false => rfl
        | true => rw [less_trans (ord_get h (show pos l x + j < l.length by omega) (show pos l x < pos l x + j by omega)) hl] at h3; cases h3
    have hne := hx l[pos l x + j] (List.getElem_mem _)
    simp only [less, decide_eq_false_iff_not, decide_eq_true_eq] at h4 ⊢
    omega
  rw [List.pairwise_append]
  refine ⟨List.Pairwise.sublist (List.take_sublist _ _) h, List.Pairwise.cons h2 (List.Pairwise.sublist (List.drop_sublist _ _) h), ?_⟩
  intro a ha b hb
  rcases List.mem_cons.1 hb with rfl | hb
  · exact h1 a ha
  · exact less_trans (h1 a ha) (h2 b hb)
theorem ins_perm (l : List (Int × Int)) (k : Nat) (x : Int × Int) : (ins l k x).Perm (x :: l) := by
  unfold ins
  have := (List.perm_middle (a := x) (l₁ := l.take k) (l₂ := l.drop k))
  rwa [List.take_append_drop] at this
theorem good_set {l : List (Int × Int)} (h : Good l) (id at_ : Int) : Good (setL l id at_).2 := by
  unfold setL
  split
  · exact h
  · refine ⟨ord_ins (good_rem h id).ord (rem_not h id), ?_⟩
    have hp := (ins_perm (rem l id) (pos (rem l id) (id, at_)) (id, at_)).map (·.1)
    rw [hp.nodup_iff, List.map_cons, List.nodup_cons]
    refine ⟨fun hm => ?_, (good_rem h id).nd⟩
    obtain ⟨y, hy, e⟩ := List.mem_map.1 hm
    exact rem_not h id y hy e
theorem set_length {l : List (Int × Int)} (id at_ : Int) (hl : l.length ≤ 64) : (setL l id at_).2.length ≤ 64 := by
  unfold setL
  split
  · exact hl
  · rename_i hc
    rw [ins_length _ _ _ (pos_le _ _)]
    by_cases hf : l.findIdx (isId id) < l.length
    · unfold rem
      rw [List.length_eraseIdx_of_lt hf]
      omega
    · rw [rem_none hf]
      have : ¬ l.length = 64 := fun q => hc ⟨hf, q⟩
      omega
theorem good_drop {l : List (Int × Int)} (h : Good l) (now : Int) : Good (l.dropWhile (due now)) :=
  ⟨List.Pairwise.sublist (List.dropWhile_sublist _) h.ord, List.Nodup.sublist (List.Sublist.map _ (List.dropWhile_sublist _)) h.nd⟩
/-- What is no table, and no row of timers, has stayed. -/
structure Oth (w w' : World) : Prop where
  size : w.heap.size ≤ w'.heap.size
  same : ∀ (k : Nat) (o : Obj), w.heap[k]? = some o → (∀ c, o ≠ .cells c 64 (0, 0) ∧ o ≠ .cells c 68 (0, 0)) → w'.heap[k]? = some o
theorem Oth.refl (w : World) : Oth w w := ⟨Nat.le_refl _, fun _ _ h _ => h⟩
theorem Oth.trans {a b c : World} (h : Oth a b) (g : Oth b c) : Oth a c := ⟨Nat.le_trans h.size g.size, fun k o h1 h2 => g.same k o (h.same k o h1 h2) h2⟩
theorem Oth.of_below {a b : World} (h : Below a.heap.size a b) : Oth a b := ⟨h.size, fun k o h1 _ => (h.block k (Array.getElem?_eq_some_iff.1 h1).1).trans h1⟩
theorem Tab.types {w : World} {t : Nat} {v : Value} {l : List (Int × Int)} (h : Tab w t v l) (k : Nat) (hk : Ft t v k) : ∃ c, w.heap[k]? = some (.cells c 64 (0, 0)) ∨ w.heap[k]? = some (.cells c 68 (0, 0)) := by
  rcases hk with rfl | hk
  · exact ⟨_, .inl h.blk⟩
  · rcases h.row.2 with ⟨rfl, _⟩ | ⟨g, cap, cur, rfl, _, hg, _⟩
    · cases hk
    · injection hk with hk
      change g = k at hk
      subst hk
      exact ⟨_, .inr hg⟩
theorem Oth.of_chg {w w' : World} {t : Nat} {v : Value} {l : List (Int × Int)} (h : Tab w t v l) (g : Chg (Ft t v) w w') : Oth w w' :=
  ⟨g.size, fun k o h1 h2 => (g.block k (Array.getElem?_eq_some_iff.1 h1).1 (fun q => by
    obtain ⟨c, e | e⟩ := h.types k q
    · exact (h2 c).1 (Option.some.inj (h1.symm.trans e))
    · exact (h2 c).2 (Option.some.inj (h1.symm.trans e)))).trans h1⟩
/-- A table of the law's own. -/
structure St (w0 w : World) (t : Nat) (l : List (Int × Int)) : Prop where
  tab : ∃ v, Tab w t v l ∧ ∀ k, Ft t v k → w0.heap.size ≤ k
  good : Good l
  len : l.length ≤ 64
  below : Below w0.heap.size w0 w
theorem St.on {w0 w w' : World} {t : Nat} {l : List (Int × Int)} (h : St w0 w t l) (hb : Below w.heap.size w w') : St w0 w' t l := by
  obtain ⟨v, h1, h2⟩ := h.tab
  exact ⟨⟨v, h1.below hb, h2⟩, h.good, h.len, h.below.trans (hb.mono h.below.size)⟩
theorem new_st (w0 w : World) (hb : Below w0.heap.size w0 w) : Calls Try.prog 12 #[] w fun e w' => ∃ t, e = .returned (.pointer (some ⟨t, 0, none⟩)) ∧ St w0 w' t [] ∧ Below w.heap.size w w' := by
  refine (New_calls w).mono ?_
  rintro e w' ⟨rfl, ht, hb2, _⟩
  exact ⟨_, rfl, ⟨⟨_, ht, fun k hk => by rcases hk with rfl | hk; exact hb.size; cases hk⟩, good_nil, by simp, hb.trans (hb2.mono hb.size)⟩, hb2⟩
theorem set_st {w0 w : World} {t : Nat} {l : List (Int × Int)} (h : St w0 w t l) (id at_ : Int) : Calls Try.prog 13 #[.pointer (some ⟨t, 0, none⟩), .int .i64 id, .int .i64 at_] w fun e w' => e = .returned (.int .i64 (setL l id at_).1) ∧ St w0 w' t (setL l id at_).2 ∧ Oth w w' := by
  obtain ⟨v, h1, h2⟩ := h.tab
  refine (Set_calls w t v l h1 h.good.ord id at_ h.len).mono ?_
  rintro e w' ⟨v', rfl, ht, hc, hloc⟩
  refine ⟨rfl, ⟨⟨v', ht, fun k hk => ?_⟩, good_set h.good id at_, set_length id at_ h.len, Chg.below h.below hc h.below.size (fun k hk q => by have := h2 k q; omega)⟩, Oth.of_chg h1 hc⟩
  rcases hk with rfl | hk
  · exact h2 _ (.inl rfl)
  · rcases hloc with e | ⟨b, e, hb⟩
    · exact h2 k (.inr (e.symm.trans hk))
    · rw [e] at hk
      injection hk with hk
      have := h.below.size
      omega
theorem due_st {w0 w : World} {t : Nat} {l : List (Int × Int)} (h : St w0 w t l) (now : Int) : Calls Try.prog 14 #[.pointer (some ⟨t, 0, none⟩), .int .i64 now] w fun e w' => ∃ u, e = .returned u ∧ w'.ownsRow w.heap.size 3 1 u (l.takeWhile (due now)).length ((l.takeWhile (due now)).map (fun x => .int .i64 x.1)) ∧ St w0 w' t (l.dropWhile (due now)) ∧ Oth w w' := by
  obtain ⟨v, h1, h2⟩ := h.tab
  refine (Due_calls w t v l h1 now h.len).mono ?_
  rintro e w' ⟨v', u, rfl, hr, ht, hc, hown⟩
  refine ⟨u, rfl, hr, ⟨⟨v', ht, fun k hk => h2 k (hk.imp (fun z => z) (fun z => hown.symm.trans z))⟩, good_drop h.good now, Nat.le_trans (List.Sublist.length_le (List.dropWhile_sublist _)) h.len, Chg.below h.below hc h.below.size (fun k hk q => by have := h2 k q; omega)⟩, Oth.of_chg h1 hc⟩
theorem next_st {w0 w : World} {t : Nat} {l : List (Int × Int)} (h : St w0 w t l) : Calls Try.prog 16 #[.pointer (some ⟨t, 0, none⟩)] w fun e w' => e = .returned (.tuple #[.int .i64 (next l).1, .bool (next l).2]) ∧ w' = w := by
  obtain ⟨v, h1, _⟩ := h.tab
  exact Next_calls w t v l h1 (by have := h.len; omega)
theorem len_st {w0 w : World} {t : Nat} {l : List (Int × Int)} (h : St w0 w t l) : Calls Try.prog 15 #[.pointer (some ⟨t, 0, none⟩)] w fun e w' => e = .returned (.int .i64 l.length) ∧ w' = w := by
  obtain ⟨v, h1, _⟩ := h.tab
  exact Len_calls w t v l h1
/-- A row of numbers that a call hands back. -/
theorem row_ints {w : World} {base n : Nat} {u : Value} {xs : List Int} (h : w.ownsRow base 3 1 u n (xs.map (.int .i64))) : xs.length = n ∧ ∃ A c, u = .slice A n c ∧ ∀ j (hj : j < xs.length), ∃ g, A = some ⟨g, 0, none⟩ ∧ w.cell? ⟨g, j, none⟩ = some (.int .i64 xs[j]) := by
  have hl := h.1
  rw [List.length_map, Nat.mul_one] at hl
  refine ⟨hl, ?_⟩
  rcases h.2 with ⟨rfl, h0⟩ | ⟨g, cap, cur, rfl, _, hg, h1, _, h3, h4⟩
  · exact ⟨none, 0, by rw [h0], fun j hj => by omega⟩
  · refine ⟨_, _, rfl, fun j hj => ⟨g, rfl, ?_⟩⟩
    rw [blk_cell hg]
    have h5 : (cur.toList.take (n * 1))[j]? = some (.int .i64 xs[j]) := by
      rw [h4, List.getElem?_map, List.getElem?_eq_getElem hj]
      rfl
    rw [List.getElem?_take] at h5
    split at h5
    · simpa using h5
    · cases h5
end Go.Proofs.Ytcopnddmkmgihaa.Ak
