/- alarm: slices.Insert of one timer in the middle, where there is room. -/
import Derived.Test.YtcopnddmkmgihaaAi
namespace Go.Proofs.Ytcopnddmkmgihaa.Ak
open Go.RowKit Go.Proofs.YtcopnddmkmgihaaW.PrintWords Go.Proofs.YtcopnddmkmgihaaW.PrintLast Go.Proofs.YtcopnddmkmgihaaW.PrintMore Go.Proofs.YtcopnddmkmgihaaEv
set_option linter.unusedVariables false
set_option linter.unusedSimpArgs false
theorem shape_of {w : World} {g : Nat} {cur : Array Value} {E : Nat} (h : w.heap[g]? = some (.cells cur E (0, 0))) : w.shape? g = some (E, cur.size) := by
  simp [World.shape?, h]
theorem size68 : (Try.prog.info? 68).map (·.size) = some 2 := by kernel_rfl
theorem sizeOf68 (w : World) : (Go.sizeOf 68).run Try.prog w = .ok 2 w := by
  obtain ⟨i0, hi0, hz0, hz1, hz2⟩ := info_parts info68
  simp [Go.sizeOf, typeInfo, hi0, hz1]
theorem overlaps_run (w : World) (vb g o : Nat) (m vc lb cb : Nat) (cur cv : Array Value) (hg : w.heap[g]? = some (.cells cur 68 (0, 0))) (hv : w.heap[vb]? = some (.cells cv 68 (0, 0))) (hne : vb ≠ g) (hcur : cur.size ≠ 0) :
    (callFunc 49 #[.slice (some ⟨vb, 0, none⟩) m vc, .slice (some ⟨g, o, none⟩) lb cb]).run Try.prog w = .ok (.value (.bool false)) w := by
  rw [run_callFunc_extern Try.func49 (by kernel_rfl) (by kernel_rfl) (by kernel_rfl) (e := Extern.SlicesOverlaps.overlaps #[62, 62] #[4]) (by kernel_rfl),
    Lib.run_overlaps_apart w 62 4 68 Try.underlying62 2 sizeOf68 ⟨vb, 0, none⟩ ⟨g, o, none⟩ m vc lb cb hne 68 68 cv.size cur.size (shape_of hv) (shape_of hg) hcur (blk_frozen hv 0) (blk_frozen hv _)]
  rfl
set_option maxRecDepth 100000 in
set_option maxHeartbeats 4000000 in
theorem Insert_shift (w : World) (g cap : Nat) (cur : Array Value) (l : List (Int × Int)) (x : Int × Int) (k : Nat) (hk : k < l.length) (hl : l.length ≤ 4096) (hroom : l.length + 1 ≤ cap) (hmax : cap ≤ maxLen) (hg : w.heap[g]? = some (.cells cur 68 (0, 0))) (hsz : cur.size = cap * 2)
    (hcur : ∀ (j : Nat) (u : Value), (fl l)[j]? = some u → cur[j]? = some u) (vb : Nat) (hvb : w.heap[vb]? = some (.cells #[.int .i64 x.1, .int .i64 x.2] 68 (0, 0))) (hne : vb ≠ g) :
    Calls Try.prog 39 #[.slice (some ⟨g, 0, none⟩) l.length cap, .int .i64 k, .slice (some ⟨vb, 0, none⟩) 1 1] w fun e w' => e = .returned (.slice (some ⟨g, 0, none⟩) (l.length + 1) cap) ∧ Rw 68 w' (.slice (some ⟨g, 0, none⟩) (l.length + 1) cap) (ins l k x) ∧ Chg (fun j => j = g) w w' := by
  obtain ⟨n, hn⟩ : ∃ n, l.length = n := ⟨_, rfl⟩
  have hil := ins_length l k x (by omega)
  rw [hn] at hil
  obtain ⟨cs, hcs⟩ : ∃ cs, cs = fl (l.drop k) := ⟨_, rfl⟩
  have hlen : cs.length = (n - k) * 2 := by rw [hcs, fl_length, List.length_drop, hn]
  rw [hn] at hk hl hroom ⊢
  have hcsr : ∀ (W : World), (∀ j, W.cell? ⟨g, j, none⟩ = cur[j]?) → ∀ j u, cs[j]? = some u → W.cell? ((⟨g, k * 2, none⟩ : Addr).add j) = some u := by
    intro W hW j u hu
    rw [add_off, hW]
    refine hcur _ _ ?_
    rw [hcs, ← fl_drop, List.getElem?_drop] at hu
    exact hu
  have hov : ∀ lb cb, (callFunc 49 #[.slice (some ⟨vb, 0, none⟩) 1 1, .slice (some ⟨g, (k + 1) * 2, none⟩) lb cb]).run Try.prog w = .ok (.value (.bool false)) w :=
    fun lb cb => overlaps_run w vb g _ 1 1 lb cb cur _ hg hvb hne (by omega)
  have hcp1 : ∀ ty dc sc, (Builtin.copy_ #[62, 62] ty #[.slice (some ⟨g, (k + 1) * 2, none⟩) (n - k) dc, .slice (some ⟨g, k * 2, none⟩) (n + 1 - k) sc]).run Try.prog w.drew = .ok (goInt (Nat.min (n + 1 - k) (n - k))) (w.drew.setCells g ((k + 1) * 2) cs) := fun ty dc sc =>
    run_copy_cells2 w.drew _ _ ty 68 2 g ((k + 1) * 2) (n - k) dc ⟨g, k * 2, none⟩ (n + 1 - k) sc cs Try.underlying62 size68 (by rw [hlen]; simp only [Nat.min_def]; split <;> omega)
      (hcsr w.drew (fun j => blk_cell (w := w) hg j))
      (fun j hj => by show (w.cell? _).isSome = true; rw [blk_cell hg, Array.getElem?_eq_getElem (by rw [hsz]; omega)]; rfl) (fun j _ => blk_frozen (w := w) hg _) (by rw [hcs]; exact fl_one _)
  obtain ⟨W1, hW1⟩ : ∃ W1, W1 = w.drew.setCells g ((k + 1) * 2) cs := ⟨_, rfl⟩
  obtain ⟨cur1, hb1, hsz1, hc1⟩ := setCells_block g 68 cs ((k + 1) * 2) w.drew cur hg (by rw [hsz]; omega)
  have hvb1 : W1.heap[vb]? = some (.cells #[.int .i64 x.1, .int .i64 x.2] 68 (0, 0)) := by rw [hW1, setCells_other g _ _ _ _ hne]; exact hvb
  rw [← hW1] at hb1 hcp1
  have hcp2 : ∀ ty dc, (Builtin.copy_ #[62, 62] ty #[.slice (some ⟨g, k * 2, none⟩) (n + 1 - k) dc, .slice (some ⟨vb, 0, none⟩) 1 1]).run Try.prog W1 = .ok (goInt (Nat.min 1 (n + 1 - k))) (W1.setCells g (k * 2) [.int .i64 x.1, .int .i64 x.2]) := fun ty dc =>
    run_copy_cells2 W1 _ _ ty 68 2 g (k * 2) (n + 1 - k) dc ⟨vb, 0, none⟩ 1 1 [.int .i64 x.1, .int .i64 x.2] Try.underlying62 size68 (by simp only [Nat.min_def]; split <;> simp <;> omega)
      (fun j u hu => by
        rw [add_off, blk_cell hvb1]
        match j, hu with
        | 0, hu => exact hu
        | 1, hu => exact hu)
      (fun j hj => by rw [blk_cell hb1, Array.getElem?_eq_getElem (by rw [hsz1, hsz]; simp at hj; omega)]; rfl) (fun j _ => blk_frozen hb1 _) (by simp [Value.oneCell'])
  obtain ⟨cur2, hb2, hsz2, hc2⟩ := setCells_block g 68 [.int .i64 x.1, .int .i64 x.2] (k * 2) W1 cur1 hb1 (by rw [hsz1, hsz]; simp; omega)
  obtain ⟨W2, hW2⟩ : ∃ W2, W2 = W1.setCells g (k * 2) [.int .i64 x.1, .int .i64 x.2] := ⟨_, rfl⟩
  have hchg : Chg (fun j => j = g) w W2 := by
    rw [hW2, hW1]
    exact setCells_chg g _ _ _ (setCells_chg g _ _ _ (Chg.drew (Chg.refl _ _)) (fun _ => rfl)) (fun _ => rfl)
  have hfin : Rw 68 W2 (.slice (some ⟨g, 0, none⟩) (n + 1) cap) (ins l k x) := by
    rw [show Value.slice (some ⟨g, 0, none⟩) (n + 1) cap = Value.slice (some ⟨g, 0, none⟩) (ins l k x).length cap by rw [hil], hW2]
    refine Rw.mk hb2 (by omega) hmax (by rw [hsz2, hsz1, hsz]) (fun j u hu => ?_)
    have hj : j < (n + 1) * 2 := by
      have := (List.getElem?_eq_some_iff.1 hu).1
      rw [fl_length, hil] at this
      exact this
    unfold ins at hu
    rw [fl_append, fl_cons, ← fl_take, ← hcs] at hu
    have htl : ((fl l).take (k * 2)).length = k * 2 := by rw [List.length_take, fl_length]; omega
    rw [hc2 j]
    by_cases h1 : j < k * 2
    · rw [List.getElem?_append_left (by omega), List.getElem?_take, if_pos h1] at hu
      rw [if_neg (by omega), hc1 j, if_neg (by omega)]
      exact hcur j u hu
    · rw [List.getElem?_append_right (by omega), htl] at hu
      by_cases h2 : j < k * 2 + 2
      · rw [if_pos (by simp; omega)]
        rcases (show j = k * 2 ∨ j = k * 2 + 1 by omega) with e | e
        · rw [e, Nat.sub_self] at hu ⊢; exact hu
        · rw [e, show k * 2 + 1 - k * 2 = 1 by omega] at hu ⊢; exact hu
      · rw [if_neg (by simp; omega), hc1 j, if_pos (by omega)]
        rw [show j - k * 2 = (j - (k + 1) * 2) + 1 + 1 by omega, List.getElem?_cons_succ, List.getElem?_cons_succ] at hu
        exact hu
  rw [← hW2] at hcp2
  have HF := Lib.hid hfin
  have HC := Lib.hid hchg
  have hne2 : ¬ cap = k := by omega
  have hne3 : ¬ cap = k + 1 := by omega
  have b1 : (k : Int) ≤ (n : Int) := by omega
  have b2 : ¬ ((k : Int) = (n : Int)) := by omega
  have b3 : ¬ ((cap : Int) < (n : Int) + 1) := by omega
  have b4 : (n : Int) + 1 ≤ (cap : Int) := by omega
  have b5 : (0 : Int) ≤ (k : Int) + 1 := by omega
  have b6 : (k : Int) + 1 ≤ (n : Int) + 1 := by omega
  have b7 : (k : Int) ≤ (n : Int) + 1 := by omega
  have b8 : IntKind.i64.wrap ((k : Int) + 1) = (k : Int) + 1 := by rw [IntKind.wrap_i64]; omega
  have b9 : ((k : Int) + 1).toNat = k + 1 := by omega
  clear hW1 hW2 hfin hchg hb1 hb2 hsz1 hsz2 hc1 hc2 hvb1 hcsr hcs hlen hcur hsz hg hvb hil hn hmax
  go_enter Try.func39, Try.ntmps39
  go_wp2_with (simp only [hov])
  go_region_law (refine step_copy rfl _ _ 62 62 rfl _ _ (by simp [Act.eval, Act.put]) (by simp [Act.eval, Act.put]) (hcp1 _ _ _) ?_)
  go_wp2_with (at_builtin; refine copy_event _ rfl _ _ 62 62 rfl _ _ rfl rfl (hcp2 _ _) ?_)
  go_ret
  exact ⟨rfl, HF.out, HC.out⟩
end Go.Proofs.Ytcopnddmkmgihaa.Ak
