/- alarm: slices.Insert of one timer in the middle, where there is no room; and all roads together. -/
import Derived.Test.YtcopnddmkmgihaaAj
namespace Go.Proofs.Ytcopnddmkmgihaa.Ak
open Go.RowKit Go.Proofs.YtcopnddmkmgihaaW.PrintWords Go.Proofs.YtcopnddmkmgihaaW.PrintLast Go.Proofs.YtcopnddmkmgihaaW.PrintMore Go.Proofs.YtcopnddmkmgihaaEv
set_option linter.unusedVariables false
set_option linter.unusedSimpArgs false
set_option maxRecDepth 100000 in
set_option maxHeartbeats 4000000 in
theorem Insert_grow (w : World) (g cap : Nat) (cur : Array Value) (l : List (Int × Int)) (x : Int × Int) (k : Nat) (hk : k < l.length) (hl : l.length ≤ 4096) (hcl : l.length ≤ cap) (hroom : cap < l.length + 1) (hg : w.heap[g]? = some (.cells cur 68 (0, 0))) (hsz : cur.size = cap * 2)
    (hcur : ∀ (j : Nat) (u : Value), (fl l)[j]? = some u → cur[j]? = some u) (vb : Nat) (hvb : w.heap[vb]? = some (.cells #[.int .i64 x.1, .int .i64 x.2] 68 (0, 0))) :
    Calls Try.prog 39 #[.slice (some ⟨g, 0, none⟩) l.length cap, .int .i64 k, .slice (some ⟨vb, 0, none⟩) 1 1] w fun e w' => ∃ c', e = .returned (.slice (some ⟨w.heap.size, 0, none⟩) (l.length + 1) c') ∧ Rw 68 w' (.slice (some ⟨w.heap.size, 0, none⟩) (l.length + 1) c') (ins l k x) ∧ Chg (fun _ => False) w w' := by
  obtain ⟨n, hn⟩ : ∃ n, l.length = n := ⟨_, rfl⟩
  have hil := ins_length l k x (by omega)
  rw [hn] at hil
  obtain ⟨cs, hcs⟩ : ∃ cs, cs = fl (l.drop k) := ⟨_, rfl⟩
  have hlen : cs.length = (n - k) * 2 := by rw [hcs, fl_length, List.length_drop, hn]
  rw [hn] at hk hl hroom hcl ⊢
  obtain ⟨i0, hi0, hz0, hz1, hz2⟩ := info_parts info68
  obtain ⟨olds, holds⟩ : ∃ olds, olds = (fl l).take (k * 2) := ⟨_, rfl⟩
  have hol : olds.length = k * 2 := by rw [holds, List.length_take, fl_length, hn]; omega
  have hold : (Builtin.firstCells i0.size k (.slice (some ⟨g, 0, none⟩) k cap)).run Try.prog w.drew = .ok olds.toArray w.drew := by
    rw [hz1]
    exact run_firstCells_some w.drew 2 k ⟨g, 0, none⟩ k cap olds hol (fun j u hj => by
      rw [add_off]
      show w.cell? _ = _
      rw [blk_cell hg, Nat.zero_add]
      rw [holds, List.getElem?_take] at hj
      split at hj
      · exact hcur j u hj
      · cases hj)
  obtain ⟨G, hG⟩ : ∃ G, G = grownCap w (n + 1) cap 68 := ⟨_, rfl⟩
  have hGn : n + 1 ≤ G := by rw [hG]; exact grownCap_ge w _ _ _
  have hGm : G ≤ maxLen := by rw [hG]; exact grownCap_le_maxLen w (n + 1) cap 68 (by unfold maxLen; omega)
  obtain ⟨ROW, hROW⟩ : ∃ ROW : Array Value, ROW = olds.toArray ++ Builtin.zeroCells (Value.agg #[.int .i64 0, .int .i64 0]).cells (n + 1 - k) ++ Builtin.zeroCells (Value.agg #[.int .i64 0, .int .i64 0]).cells (G - (n + 1)) := ⟨_, rfl⟩
  have hzs : ∀ m, (Builtin.zeroCells (Value.agg #[.int .i64 0, .int .i64 0]).cells m).size = m * 2 := fun m => by
    have := congrArg List.length (zeroCells_list (.agg #[.int .i64 0, .int .i64 0]) (.int .i64 0) 2 m rfl)
    rw [List.length_replicate] at this
    simpa using this
  have hRs : ROW.size = G * 2 := by
    rw [hROW, Array.size_append, Array.size_append, hzs, hzs, List.size_toArray, hol]
    omega
  have hRo : ∀ j, j < k * 2 → ROW[j]? = olds[j]? := fun j hj => by
    rw [hROW, Array.getElem?_append_left (by rw [Array.size_append, List.size_toArray, hol]; omega), Array.getElem?_append_left (by rw [List.size_toArray, hol]; omega)]
    simp
  obtain ⟨W1, hW1⟩ : ∃ W1, W1 = w.drew.alloc (.cells ROW 68) := ⟨_, rfl⟩
  have hrz : ∀ ty, (Builtin.append_ #[62, 3] ty #[.slice (some ⟨g, 0, none⟩) k cap, .int .i64 ((n : Int) + 1 - (k : Int))]).run Try.prog w = .ok (.slice (some ⟨w.heap.size, 0, none⟩) (n + 1) G) W1 := fun ty => by
    have h := Lib.run_append_grow_zeros w 62 3 ty 68 i0 _ .i64 .i64 Try.underlying62 Try.underlying3 hi0 hz0 (some ⟨g, 0, none⟩) k cap olds hold (n + 1 - k) (by omega) (by omega) (by omega) (by omega) (by rw [hz2]; omega) (by rw [hz2, show k + (n + 1 - k) = n + 1 by omega]; exact growslice_fits hroom (by omega))
    rw [show k + (n + 1 - k) = n + 1 by omega, ← hG, ← hROW, ← hW1] at h
    rw [show (n : Int) + 1 - (k : Int) = ((n + 1 - k : Nat) : Int) by omega]
    exact h
  have hgl : g < w.heap.size := blk_lt hg
  have hvl : vb < w.heap.size := blk_lt hvb
  have hB1 : Below w.heap.size w W1 := by rw [hW1]; exact (below_drew (Below.refl _ _)).alloc (Nat.le_refl _) _
  have hN1 : W1.heap[w.heap.size]? = some (.cells ROW 68 (0, 0)) := by rw [hW1]; exact blk_new w.drew _
  have hg1 := (hB1.block g hgl).trans hg
  have hv1 := (hB1.block vb hvl).trans hvb
  have hcp1 : ∀ ty dc, (Builtin.copy_ #[62, 62] ty #[.slice (some ⟨w.heap.size, k * 2, none⟩) (n + 1 - k) dc, .slice (some ⟨vb, 0, none⟩) 1 1]).run Try.prog W1 = .ok (goInt (Nat.min 1 (n + 1 - k))) (W1.setCells w.heap.size (k * 2) [.int .i64 x.1, .int .i64 x.2]) := fun ty dc =>
    run_copy_cells2 W1 _ _ ty 68 2 w.heap.size (k * 2) (n + 1 - k) dc ⟨vb, 0, none⟩ 1 1 [.int .i64 x.1, .int .i64 x.2] Try.underlying62 size68 (by simp only [Nat.min_def]; split <;> simp <;> omega)
      (fun j u hu => by
        rw [add_off, blk_cell hv1]
        match j, hu with
        | 0, hu => exact hu
        | 1, hu => exact hu)
      (fun j hj => by rw [blk_cell hN1, Array.getElem?_eq_getElem (by rw [hRs]; simp at hj; omega)]; rfl) (fun j _ => blk_frozen hN1 _) (by simp [Value.oneCell'])
  obtain ⟨cur2, hb2, hsz2, hc2⟩ := setCells_block w.heap.size 68 [.int .i64 x.1, .int .i64 x.2] (k * 2) W1 ROW hN1 (by rw [hRs]; simp; omega)
  obtain ⟨W2, hW2⟩ : ∃ W2, W2 = W1.setCells w.heap.size (k * 2) [.int .i64 x.1, .int .i64 x.2] := ⟨_, rfl⟩
  have hg2 : W2.heap[g]? = some (.cells cur 68 (0, 0)) := by rw [hW2, setCells_other _ _ _ _ _ (by omega)]; exact hg1
  rw [← hW2] at hcp1 hb2
  have hcp2 : ∀ ty dc sc, (Builtin.copy_ #[62, 62] ty #[.slice (some ⟨w.heap.size, (k + 1) * 2, none⟩) (n - k) dc, .slice (some ⟨g, k * 2, none⟩) (n - k) sc]).run Try.prog W2.drew = .ok (goInt (Nat.min (n - k) (n - k))) (W2.drew.setCells w.heap.size ((k + 1) * 2) cs) := fun ty dc sc =>
    run_copy_cells2 W2.drew _ _ ty 68 2 w.heap.size ((k + 1) * 2) (n - k) dc ⟨g, k * 2, none⟩ (n - k) sc cs Try.underlying62 size68 (by rw [hlen]; simp only [Nat.min_def]; split <;> omega)
      (fun j u hu => by
        rw [add_off]
        show W2.cell? _ = _
        rw [blk_cell hg2]
        refine hcur _ _ ?_
        rw [hcs, ← fl_drop, List.getElem?_drop] at hu
        exact hu)
      (fun j hj => by show (W2.cell? _).isSome = true; rw [blk_cell hb2, Array.getElem?_eq_getElem (by rw [hsz2, hRs]; omega)]; rfl) (fun j _ => blk_frozen (w := W2) hb2 _) (by rw [hcs]; exact fl_one _)
  obtain ⟨cur3, hb3, hsz3, hc3⟩ := setCells_block w.heap.size 68 cs ((k + 1) * 2) W2.drew cur2 hb2 (by rw [hsz2, hRs]; omega)
  obtain ⟨W3, hW3⟩ : ∃ W3, W3 = W2.drew.setCells w.heap.size ((k + 1) * 2) cs := ⟨_, rfl⟩
  rw [← hW3] at hcp2 hb3
  have hchg : Chg (fun _ => False) w W3 := by
    rw [hW3, hW2]
    exact setCells_chg _ _ _ _ (Chg.drew (setCells_chg _ _ _ _ (Chg.of_below hB1) (fun q => absurd q (Nat.lt_irrefl _)))) (fun q => absurd q (Nat.lt_irrefl _))
  have hfin : Rw 68 W3 (.slice (some ⟨w.heap.size, 0, none⟩) (n + 1) G) (ins l k x) := by
    rw [show Value.slice (some ⟨w.heap.size, 0, none⟩) (n + 1) G = Value.slice (some ⟨w.heap.size, 0, none⟩) (ins l k x).length G by rw [hil]]
    refine Rw.mk hb3 (by omega) hGm (by rw [hsz3, hsz2, hRs]) (fun j u hu => ?_)
    have hj : j < (n + 1) * 2 := by
      have := (List.getElem?_eq_some_iff.1 hu).1
      rw [fl_length, hil] at this
      exact this
    unfold ins at hu
    rw [fl_append, fl_cons, ← fl_take, ← hcs, ← holds] at hu
    rw [hc3 j]
    by_cases h1 : j < k * 2
    · rw [List.getElem?_append_left (by omega)] at hu
      rw [if_neg (by omega), hc2 j, if_neg (by omega), hRo j h1]
      exact hu
    · rw [List.getElem?_append_right (by omega), hol] at hu
      by_cases h2 : j < k * 2 + 2
      · rw [if_neg (by omega), hc2 j, if_pos (by simp; omega)]
        rcases (show j = k * 2 ∨ j = k * 2 + 1 by omega) with e | e
        · rw [e, Nat.sub_self] at hu ⊢; exact hu
        · rw [e, show k * 2 + 1 - k * 2 = 1 by omega] at hu ⊢; exact hu
      · rw [if_pos (by omega)]
        rw [show j - k * 2 = (j - (k + 1) * 2) + 1 + 1 by omega, List.getElem?_cons_succ, List.getElem?_cons_succ] at hu
        exact hu
  have HF := Lib.hid hfin
  have HC := Lib.hid hchg
  have hne2 : ¬ cap = k := by omega
  have hne3 : ¬ G = k := by omega
  have hne4 : ¬ G = k + 1 := by omega
  have b1 : (k : Int) ≤ (n : Int) := by omega
  have b2 : ¬ ((k : Int) = (n : Int)) := by omega
  have b3 : (cap : Int) < (n : Int) + 1 := by omega
  have b5 : (0 : Int) ≤ (k : Int) + 1 := by omega
  have b6 : (k : Int) + 1 ≤ (n : Int) + 1 := by omega
  have b7 : (k : Int) ≤ (n : Int) + 1 := by omega
  have b8 : IntKind.i64.wrap ((k : Int) + 1) = (k : Int) + 1 := by rw [IntKind.wrap_i64]; omega
  have b9 : ((k : Int) + 1).toNat = k + 1 := by omega
  have b10 : (k : Int) ≤ (cap : Int) := by omega
  clear hW1 hW2 hW3 hfin hchg hb2 hb3 hsz2 hsz3 hc2 hc3 hg1 hg2 hv1 hN1 hB1 hcs hlen hcur hsz hg hvb hil hn hGm hGn hG hROW hRs hRo hold hol holds hzs hgl hvl
  go_enter Try.func39, Try.ntmps39
  go_wp2_with (first
    | (at_builtin; refine append_event _ rfl _ _ _ _ rfl _ _ rfl rfl (hrz _) ?_)
    | (at_builtin; refine copy_event _ rfl _ _ 62 62 rfl _ _ rfl rfl (hcp1 _ _) ?_))
  go_region_law (refine step_copy rfl _ _ 62 62 rfl _ _ (by simp [Act.eval, Act.put]) (by simp [Act.eval, Act.put]) (hcp2 _ _ _) ?_)
  go_wp2
  go_ret
  exact ⟨_, rfl, HF.out, HC.out⟩
/-- All roads. -/
theorem Insert_calls (w : World) (v : Value) (l : List (Int × Int)) (x : Int × Int) (k : Nat) (hk : k ≤ l.length) (hl : l.length ≤ 4096) (h : Rw 68 w v l) (vb : Nat) (hvb : w.heap[vb]? = some (.cells #[.int .i64 x.1, .int .i64 x.2] 68 (0, 0))) (hne : v.ownBlock ≠ some vb) :
    Calls Try.prog 39 #[v, .int .i64 k, .slice (some ⟨vb, 0, none⟩) 1 1] w fun e w' => ∃ v', e = .returned v' ∧ Rw 68 w' v' (ins l k x) ∧ Chg (fun j => v.ownBlock = some j) w w' ∧ (v'.ownBlock = v.ownBlock ∨ ∃ b, v'.ownBlock = some b ∧ w.heap.size ≤ b) := by
  by_cases g0 : k = l.length
  · subst g0
    rw [show ins l l.length x = l ++ [x] by unfold ins; simp]
    exact Insert_end w v l x hl h vb hvb
  · obtain ⟨g, cap, cur, rfl, hg, h1, h2, h3, h4⟩ := h.open_ (by omega)
    by_cases g1 : l.length + 1 ≤ cap
    · refine (Insert_shift w g cap cur l x k (by omega) hl g1 h2 hg h3 h4 vb hvb (fun e => hne (by rw [e]; rfl))).mono ?_
      rintro e w' ⟨rfl, hr, hc⟩
      exact ⟨_, rfl, hr, hc.mono (fun i _ e => by rw [e]; rfl), .inl rfl⟩
    · refine (Insert_grow w g cap cur l x k (by omega) hl h1 (by omega) hg h3 h4 vb hvb).mono ?_
      rintro e w' ⟨c', rfl, hr, hc⟩
      exact ⟨_, rfl, hr, hc.mono (fun i _ e => e.elim), .inr ⟨_, rfl, Nat.le_refl _⟩⟩
end Go.Proofs.Ytcopnddmkmgihaa.Ak
