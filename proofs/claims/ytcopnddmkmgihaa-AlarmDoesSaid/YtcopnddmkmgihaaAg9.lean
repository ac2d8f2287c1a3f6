/- alarm: find, Len, Next. -/
import Derived.Test.YtcopnddmkmgihaaAf
namespace Go.Proofs.Ytcopnddmkmgihaa.Ak
open Go.RowKit Go.Proofs.YtcopnddmkmgihaaW.PrintWords Go.Proofs.YtcopnddmkmgihaaW.PrintLast Go.Proofs.YtcopnddmkmgihaaW.PrintMore Go.Proofs.YtcopnddmkmgihaaEv
set_option linter.unusedVariables false
set_option linter.unusedSimpArgs false
/-- The table in block t holds the timers l, by its slice v. -/
structure Tab (w : World) (t : Nat) (v : Value) (l : List (Int × Int)) : Prop where
  blk : w.heap[t]? = some (.cells #[v] 64 (0, 0))
  row : Rw 68 w v l
/-- The blocks of a table. -/
def Ft (t : Nat) (v : Value) (k : Nat) : Prop := k = t ∨ v.ownBlock = some k
theorem Tab.lt {w : World} {t : Nat} {v : Value} {l : List (Int × Int)} (h : Tab w t v l) : t < w.heap.size := blk_lt h.blk
theorem Tab.ft_lt {w : World} {t : Nat} {v : Value} {l : List (Int × Int)} (h : Tab w t v l) (k : Nat) (hk : Ft t v k) : k < w.heap.size := by
  rcases hk with rfl | hk
  · exact h.lt
  · exact (h.row.lt k hk).2
theorem Tab.ne {w : World} {t : Nat} {v : Value} {l : List (Int × Int)} (h : Tab w t v l) : v.ownBlock ≠ some t := by
  intro e
  rcases h.row.2 with ⟨rfl, _⟩ | ⟨g, cap, cur, rfl, _, hg, _⟩
  · cases e
  · injection e with e
    change g = t at e
    subst e
    have := h.blk.symm.trans hg
    injection this with this
    injection this with _ h2
    cases h2
theorem Tab.keep {w w' : World} {t : Nat} {v : Value} {l : List (Int × Int)} {S : Nat → Prop} (h : Tab w t v l) (g : Chg S w w') (hS : ∀ k, Ft t v k → ¬ S k) : Tab w' t v l :=
  ⟨(g.block t h.lt (hS t (.inl rfl))).trans h.blk, h.row.keep g (fun k hk => hS k (.inr hk))⟩
theorem Tab.below {w w' : World} {t : Nat} {v : Value} {l : List (Int × Int)} (h : Tab w t v l) (g : Below w.heap.size w w') : Tab w' t v l :=
  h.keep (S := fun _ => False) (Chg.of_below g) (fun _ _ q => q)
theorem Tab.cell {w : World} {t : Nat} {v : Value} {l : List (Int × Int)} (h : Tab w t v l) : w.cell? ⟨t, 0, none⟩ = some v := blk_cell h.blk 0
/-- A slice of timers, opened. -/
theorem Rw.slice {E : Nat} {w : World} {v : Value} {l : List (Int × Int)} (h : Rw E w v l) : ∃ A c, v = .slice A l.length c ∧ (0 < l.length → ∃ g cur, A = some ⟨g, 0, none⟩ ∧ w.heap[g]? = some (.cells cur E (0, 0)) ∧ ∀ (j : Nat) (u : Value), (fl l)[j]? = some u → cur[j]? = some u) := by
  rcases h.2 with ⟨hv, h0⟩ | ⟨g, cap, cur, hv, _⟩
  · exact ⟨none, 0, by rw [hv, h0], fun q => by omega⟩
  · refine ⟨_, _, hv, fun q => ?_⟩
    obtain ⟨g', cap', cur', e, h1, _, _, _, h2⟩ := h.open_ q
    rw [hv] at e
    injection e with e1 _ _
    exact ⟨g', cur', e1, h1, h2⟩
set_option maxRecDepth 100000 in
set_option maxHeartbeats 4000000 in
theorem find_calls (w : World) (t : Nat) (v : Value) (l : List (Int × Int)) (h : Tab w t v l) (hl : l.length ≤ 4096) (id : Int) :
    Calls Try.prog 33 #[.pointer (some ⟨t, 0, none⟩), .int .i64 id] w fun e w' => e = .returned (.int .i64 (idx l id)) ∧ Below w.heap.size w w' := by
  have hlt := h.lt
  have hc := h.cell
  have HT := Lib.hid h
  clear h
  go_enter Try.func33, Try.ntmps33
  go_wp2_with (go_at_call 46; (with_reducible refine (IndexFunc_calls _ v l (HT.out.below ((Below.refl _ _).alloc (Nat.le_refl _) _)).row hl id w.heap.size ?hbx).mono ?_); (case hbx => first | rfl | (go_simp; done)); rintro e w' ⟨rfl, hb⟩)
  go_ret
  exact ⟨rfl, ((Below.refl _ _).alloc (Nat.le_refl _) _).trans (hb.mono (by simp))⟩
set_option maxRecDepth 100000 in
theorem find_nil (w : World) (id : Int) :
    Calls Try.prog 33 #[.pointer none, .int .i64 id] w fun e w' => e = .returned (.int .i64 (-1)) ∧ Below w.heap.size w w' := by
  go_enter Try.func33, Try.ntmps33
  go_wp2
  go_ret
  exact ⟨rfl, (Below.refl _ _).alloc (Nat.le_refl _) _⟩
set_option maxRecDepth 100000 in
theorem Len_calls (w : World) (t : Nat) (v : Value) (l : List (Int × Int)) (h : Tab w t v l) :
    Calls Try.prog 15 #[.pointer (some ⟨t, 0, none⟩)] w fun e w' => e = .returned (.int .i64 l.length) ∧ w' = w := by
  have hc := h.cell
  obtain ⟨A, c, rfl, _⟩ := h.row.slice
  clear h
  go_enter Try.func15, Try.ntmps15
  go_wp2
  go_ret
  exact ⟨rfl, rfl⟩
set_option maxRecDepth 100000 in
theorem Len_nil (w : World) : Calls Try.prog 15 #[.pointer none] w fun e w' => e = .returned (.int .i64 0) ∧ w' = w := by
  go_enter Try.func15, Try.ntmps15
  go_wp2
  go_ret
  exact ⟨rfl, rfl⟩
/-- When the first one goes off. -/
def next : List (Int × Int) → Int × Bool
  | [] => (0, false)
  | x :: _ => (x.2, true)
set_option maxRecDepth 100000 in
theorem Next_calls (w : World) (t : Nat) (v : Value) (l : List (Int × Int)) (h : Tab w t v l) (hl : l.length ≤ 4096) :
    Calls Try.prog 16 #[.pointer (some ⟨t, 0, none⟩)] w fun e w' => e = .returned (.tuple #[.int .i64 (next l).1, .bool (next l).2]) ∧ w' = w := by
  have hc := h.cell
  obtain ⟨A, c, rfl, hrow⟩ := h.row.slice
  clear h
  cases l with
  | nil =>
    go_enter Try.func16, Try.ntmps16
    go_wp2
    go_ret2
    exact ⟨rfl, rfl⟩
  | cons x l =>
    obtain ⟨g, cur, rfl, hg, hcur⟩ := hrow (by simp)
    have h1 : w.cell? ⟨g, 1, none⟩ = some (.int .i64 x.2) := by rw [blk_cell hg]; exact hcur 1 _ rfl
    obtain ⟨n, hn⟩ : ∃ n, (x :: l).length = n := ⟨_, rfl⟩
    have hn0 : 0 < n := by rw [← hn]; simp
    rw [hn] at hc hl
    clear hg hcur hrow hn
    go_enter Try.func16, Try.ntmps16
    go_wp2
    go_ret2
    exact ⟨rfl, rfl⟩
set_option maxRecDepth 100000 in
theorem Next_nil (w : World) : Calls Try.prog 16 #[.pointer none] w fun e w' => e = .returned (.tuple #[.int .i64 0, .bool false]) ∧ w' = w := by
  go_enter Try.func16, Try.ntmps16
  go_wp2
  go_ret2
  exact ⟨rfl, rfl⟩
end Go.Proofs.Ytcopnddmkmgihaa.Ak
