/- slices.Delete of one element of two numbers. -/
import Derived.Test.YtcopnddmkmgihaaProg
import Derived.Test.YtcopnddmkmgihaaAk
namespace Go.Proofs.Ytcopnddmkmgihaa.Ak
open Go.RowKit Go.Proofs.YtcopnddmkmgihaaW.PrintWords Go.Proofs.YtcopnddmkmgihaaW.PrintLast Go.Proofs.YtcopnddmkmgihaaW.PrintMore Go.Proofs.YtcopnddmkmgihaaEv
set_option linter.unusedVariables false
set_option linter.unusedSimpArgs false
/-- A list of pairs as cells. -/
def fl (l : List (Int × Int)) : List Value := l.flatMap (fun x => [.int .i64 x.1, .int .i64 x.2])
theorem fl_cons (x : Int × Int) (l : List (Int × Int)) : fl (x :: l) = .int .i64 x.1 :: .int .i64 x.2 :: fl l := rfl
theorem fl_append (l m : List (Int × Int)) : fl (l ++ m) = fl l ++ fl m := by unfold fl; rw [List.flatMap_append]
theorem fl_length : ∀ l : List (Int × Int), (fl l).length = l.length * 2
  | [] => rfl
  | x :: l => by rw [fl_cons, List.length_cons, List.length_cons, fl_length l, List.length_cons]; omega
theorem fl_drop : ∀ (j : Nat) (l : List (Int × Int)), (fl l).drop (j * 2) = fl (l.drop j)
  | 0, l => by simp
  | j + 1, [] => by simp [fl]
  | j + 1, x :: l => by
    rw [show (j + 1) * 2 = j * 2 + 1 + 1 by omega, fl_cons, List.drop_succ_cons, List.drop_succ_cons, fl_drop j l, List.drop_succ_cons]
theorem fl_take : ∀ (j : Nat) (l : List (Int × Int)), (fl l).take (j * 2) = fl (l.take j)
  | 0, l => by simp [fl]
  | j + 1, [] => by simp [fl]
  | j + 1, x :: l => by
    rw [show (j + 1) * 2 = j * 2 + 1 + 1 by omega, fl_cons, List.take_succ_cons, List.take_succ_cons, fl_take j l, List.take_succ_cons, fl_cons]
theorem fl_one : ∀ (l : List (Int × Int)), ∀ u ∈ fl l, u.oneCell' = true := by
  intro l u hu
  unfold fl at hu
  rw [List.mem_flatMap] at hu
  obtain ⟨x, _, hx⟩ := hu
  simp at hx
  rcases hx with rfl | rfl <;> rfl
/-- v holds l: elements of type E, of two numbers each. -/
def Rw (E : Nat) (w : World) (v : Value) (l : List (Int × Int)) : Prop := w.ownsRow 0 E 2 v l.length (fl l)
theorem Rw.nil (E : Nat) (w : World) : Rw E w (.slice none 0 0) [] := World.ownsRow_nil w 0 E 2
/-- .. opened: the block's cells. -/
theorem Rw.open_ {E : Nat} {w : World} {v : Value} {l : List (Int × Int)} (h : Rw E w v l) (hl : 0 < l.length) :
    ∃ g cap cur, v = .slice (some ⟨g, 0, none⟩) l.length cap ∧ w.heap[g]? = some (.cells cur E (0, 0)) ∧ l.length ≤ cap ∧ cap ≤ maxLen ∧ cur.size = cap * 2 ∧ ∀ (j : Nat) (u : Value), (fl l)[j]? = some u → cur[j]? = some u := by
  obtain ⟨_, ⟨_, h0⟩ | ⟨g, cap, cur, rfl, _, hg, h1, h2, h3, h4⟩⟩ := h
  · omega
  · refine ⟨g, cap, cur, rfl, hg, h1, h2, h3, fun j u hu => ?_⟩
    rw [← h4] at hu
    rw [List.getElem?_take] at hu
    split at hu
    · simpa using hu
    · cases hu
/-- .. and laid again. -/
theorem Rw.mk {E : Nat} {w : World} {l : List (Int × Int)} {g cap : Nat} {cur : Array Value} (hg : w.heap[g]? = some (.cells cur E (0, 0))) (h1 : l.length ≤ cap) (h2 : cap ≤ maxLen) (h3 : cur.size = cap * 2) (h4 : ∀ (j : Nat) (u : Value), (fl l)[j]? = some u → cur[j]? = some u) :
    Rw E w (.slice (some ⟨g, 0, none⟩) l.length cap) l := by
  refine ⟨fl_length l, .inr ⟨g, cap, cur, rfl, Nat.zero_le _, hg, h1, h2, h3, ?_⟩⟩
  apply List.ext_getElem?
  intro j
  rw [List.getElem?_take]
  split
  · rename_i hj
    rw [← fl_length l] at hj
    have := h4 j _ (List.getElem?_eq_getElem hj)
    rw [List.getElem?_eq_getElem hj]
    simpa using this
  · rename_i hj
    rw [List.getElem?_eq_none (by rw [fl_length]; omega)]
theorem Rw.keep {E : Nat} {w w' : World} {v : Value} {l : List (Int × Int)} {S : Nat → Prop} (h : Rw E w v l) (g : Chg S w w') (hS : ∀ k, v.ownBlock = some k → ¬ S k) : Rw E w' v l := by
  refine ⟨h.1, ?_⟩
  rcases h.2 with hn | ⟨b, cap, cur, rfl, hb, hbb, rest⟩
  · exact .inl hn
  · refine .inr ⟨b, cap, cur, rfl, hb, ?_, rest⟩
    rw [g.block b (blk_lt hbb) (hS b rfl)]
    exact hbb
theorem add_off (g o j : Nat) : ((⟨g, o, none⟩ : Addr).add j) = ⟨g, o + j, none⟩ := by
  unfold Addr.add
  split
  · rename_i h0; rw [h0]; rfl
  · rfl
theorem zero2 (w : World) : (zeroValue 68).run Try.prog w = .ok (.agg #[.int .i64 0, .int .i64 0]) w := by kernel_rfl
theorem info68 : (Try.prog.info? 68).map (fun i => (i.zero, i.size, i.bytes)) = some (some (.agg #[.int .i64 0, .int .i64 0]), 2, 16) := by kernel_rfl
set_option maxRecDepth 100000 in
set_option maxHeartbeats 4000000 in
theorem Delete_calls (w : World) (v : Value) (l : List (Int × Int)) (i : Nat) (hi : i < l.length) (h : Rw 68 w v l) :
    Calls Try.prog 34 #[v, .int .i64 i, .int .i64 ((i : Int) + 1)] w fun e w' => ∃ v', e = .returned v' ∧ Rw 68 w' v' (l.eraseIdx i) ∧ v'.ownBlock = v.ownBlock ∧ Chg (fun k => v.ownBlock = some k) w w' := by
  obtain ⟨g, cap, cur, rfl, hg, hcap, hmax, hsz, hcur⟩ := h.open_ (by omega)
  obtain ⟨i0, hi0, hz0, hz1, hz2⟩ := info_parts info68
  obtain ⟨n, hn⟩ : ∃ n, l.length = n := ⟨_, rfl⟩
  obtain ⟨news, hnews⟩ : ∃ news, news = fl (l.drop (i + 1)) := ⟨_, rfl⟩
  have hlen : news.length = (n - (i + 1)) * 2 := by rw [hnews, fl_length, List.length_drop, hn]
  rw [hn] at hcap hi ⊢
  obtain ⟨A, hA, hsrc⟩ : ∃ A : Addr, (if cap = i + 1 then some (⟨g, 0, none⟩ : Addr) else some ⟨g, (i + 1) * 2, none⟩) = some A ∧ Hid (∀ t u, news[t]? = some u → w.drew.cell? (A.add t) = some u) := by
    by_cases hc : cap = i + 1
    · refine ⟨⟨g, 0, none⟩, by simp [hc], fun t u hu => ?_⟩
      have h0 : news.length = 0 := by rw [hlen]; omega
      rw [List.length_eq_zero_iff.1 h0] at hu
      simp at hu
    · refine ⟨⟨g, (i + 1) * 2, none⟩, by simp [hc], fun t u hu => ?_⟩
      rw [add_off]
      have : (fl l)[(i + 1) * 2 + t]? = some u := by
        rw [hnews, ← fl_drop, List.getElem?_drop] at hu
        exact hu
      show w.cell? _ = _
      rw [blk_cell hg]
      exact hcur _ _ this
  have s1 : Hid (news.length = (n - (i + 1)) * 2) := hlen
  have s2 : Hid (∀ u ∈ news, u.oneCell' = true) := by rw [hnews]; exact fl_one _
  have s3 : Hid (∀ t, t < news.length → (w.drew.cell? ⟨g, 0 + i * 2 + t, none⟩).isSome = true ∧ w.drew.frozen? ⟨g, 0 + i * 2 + t, none⟩ = false) := by
    intro t ht
    refine ⟨?_, blk_frozen hg _⟩
    show (w.cell? _).isSome = true
    rw [blk_cell hg, Array.getElem?_eq_getElem (by rw [hsz]; omega)]
    rfl
  obtain ⟨W1, hW1⟩ : ∃ W1, W1 = w.drew.setCells g (0 + i * 2) news := ⟨_, rfl⟩
  obtain ⟨cur1, hb1, hsz1, hc1⟩ := setCells_block g 68 news (0 + i * 2) w.drew cur hg (by rw [hsz]; omega)
  rw [← hW1] at hb1
  have h1 : n - (i + (n - (i + 1))) = 1 := by omega
  have hcl : ∀ ty, (Builtin.clear_ #[62] ty #[.slice (some ⟨g, (i + (n - (i + 1))) * 2, none⟩) (n - (i + (n - (i + 1)))) (cap - (i + (n - (i + 1))))]).run Try.prog W1 = .ok (.tuple #[]) (W1.setCells g ((i + (n - (i + 1))) * 2) (List.replicate ((n - (i + (n - (i + 1)))) * 2) (.int .i64 0))) :=
    fun ty => run_clear_slice2 W1 _ 68 ty _ (.int .i64 0) 2 Try.underlying62 zero2 rfl rfl g _ _ _ (by omega) (fun j hj => by rw [blk_cell hb1, Array.getElem?_eq_getElem (by rw [hsz1, hsz]; omega)]; rfl) (fun j _ => blk_frozen hb1 _)
  obtain ⟨cur2, hb2_, hsz2, hc2⟩ := setCells_block g 68 (List.replicate ((n - (i + (n - (i + 1)))) * 2) (.int .i64 0)) ((i + (n - (i + 1))) * 2) W1 cur1 hb1 (by rw [hsz1, hsz, List.length_replicate]; omega)
  have hchg : Chg (fun k => (Value.slice (some ⟨g, 0, none⟩) n cap).ownBlock = some k) w (W1.setCells g ((i + (n - (i + 1))) * 2) (List.replicate ((n - (i + (n - (i + 1)))) * 2) (.int .i64 0))) := by
    refine setCells_chg g _ _ _ ?_ (fun _ => rfl)
    rw [hW1]
    exact setCells_chg g _ _ _ (Chg.drew (Chg.refl _ _)) (fun _ => rfl)
  have hfin : Rw 68 (W1.setCells g ((i + (n - (i + 1))) * 2) (List.replicate ((n - (i + (n - (i + 1)))) * 2) (.int .i64 0))) (.slice (some ⟨g, 0, none⟩) (i + (n - (i + 1))) cap) (l.eraseIdx i) := by
    have hel : (l.eraseIdx i).length = i + (n - (i + 1)) := by rw [List.length_eraseIdx_of_lt (by omega), hn]; omega
    rw [show Value.slice (some ⟨g, 0, none⟩) (i + (n - (i + 1))) cap = Value.slice (some ⟨g, 0, none⟩) (l.eraseIdx i).length cap by rw [hel]]
    refine Rw.mk hb2_ (by omega) hmax (by rw [hsz2, hsz1, hsz]) (fun j u hu => ?_)
    have hj : j < (i + (n - (i + 1))) * 2 := by
      have := (List.getElem?_eq_some_iff.1 hu).1
      rw [fl_length, hel] at this
      exact this
    rw [hc2 j, if_neg (by omega), hc1 j]
    rw [List.eraseIdx_eq_take_drop_succ, fl_append, ← fl_take, ← hnews] at hu
    have htl : ((fl l).take (i * 2)).length = i * 2 := by rw [List.length_take, fl_length]; omega
    by_cases hji : j < i * 2
    · rw [List.getElem?_append_left (by omega), List.getElem?_take, if_pos hji] at hu
      rw [if_neg (by omega)]
      exact hcur j u hu
    · rw [List.getElem?_append_right (by omega), htl] at hu
      rw [if_pos (by omega), Nat.zero_add]
      exact hu
  have HF := Lib.hid hfin
  have HC := Lib.hid hchg
  obtain ⟨W2, hW2⟩ : ∃ W2, W2 = W1.setCells g ((i + (n - (i + 1))) * 2) (List.replicate ((n - (i + (n - (i + 1)))) * 2) (.int .i64 0)) := ⟨_, rfl⟩
  rw [← hW2] at hcl HF HC
  clear hfin hchg hb2_ hsz2 hc2 hW2 h1
  have X : Hid (W1 = w.drew.setCells g (0 + i * 2) news) := Lib.hid hW1
  have hic : i ≤ cap := by omega
  have hb0 : (0 : Int) ≤ (i : Int) + 1 := by omega
  have hb2 : (i : Int) + 1 ≤ (n : Int) := by omega
  clear hW1 h hnews hlen hg hcur hc1 hb1 hsz1
  go_enter Try.func34, Try.ntmps34
  go_wp2_with fail
  go_region_law (refine step_append_room rfl (.tmp 22) (.tmp 25) 62 rfl 68 i0 2 Try.underlying62 hi0 hz1 g 0 i cap (by simp [Act.eval, Act.put]) A (n - (i + 1)) (cap - (i + 1)) news (by simp [Act.eval, Act.put]) s1.out hsrc.out s2.out (by omega) s3.out ?_; rw [← X.out])
  go_wp2
  go_ret
  exact ⟨_, rfl, HF.out, rfl, HC.out⟩
end Go.Proofs.Ytcopnddmkmgihaa.Ak
