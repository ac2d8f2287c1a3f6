/- alarm: Set and Drop. -/
import Derived.Test.YtcopnddmkmgihaaAl
import Derived.Test.YtcopnddmkmgihaaEw
import Derived.Deep.RegionWith
namespace Go.Proofs.Ytcopnddmkmgihaa.Ak
open Go.RowKit Go.Proofs.YtcopnddmkmgihaaW.PrintWords Go.Proofs.YtcopnddmkmgihaaW.PrintLast Go.Proofs.YtcopnddmkmgihaaW.PrintMore Go.Proofs.YtcopnddmkmgihaaEv
set_option linter.unusedVariables false
set_option linter.unusedSimpArgs false
/-- Without the first timer of a number. -/
def rem (l : List (Int × Int)) (id : Int) : List (Int × Int) := l.eraseIdx (l.findIdx (isId id))
theorem rem_none {l : List (Int × Int)} {id : Int} (h : ¬ l.findIdx (isId id) < l.length) : rem l id = l := List.eraseIdx_of_length_le (by omega)
theorem rem_ord {l : List (Int × Int)} (h : Ord l) (id : Int) : Ord (rem l id) := List.Pairwise.sublist (List.eraseIdx_sublist _ _) h
theorem rem_length (l : List (Int × Int)) (id : Int) : (rem l id).length ≤ l.length := List.Sublist.length_le (List.eraseIdx_sublist _ _)
/-- What is answered, and the timers then. -/
def setL (l : List (Int × Int)) (id at_ : Int) : Int × List (Int × Int) :=
  if ¬ l.findIdx (isId id) < l.length ∧ l.length = 64 then (7, l) else (0, ins (rem l id) (pos (rem l id) (id, at_)) (id, at_))
/-- A world in which all blocks are as they were. -/
theorem Tab.same {w w' : World} {t : Nat} {v : Value} {l : List (Int × Int)} (h : Tab w t v l) (hW : ∀ k, ¬ (fun _ : Nat => False) k → k < w.heap.size → w'.heap[k]? = w.heap[k]?) : Tab w' t v l := by
  refine ⟨(hW t (fun q => q) h.lt).trans h.blk, h.row.1, ?_⟩
  rcases h.row.2 with hn | ⟨b, cap, cur, e, hb, hbb, rest⟩
  · exact .inl hn
  · exact .inr ⟨b, cap, cur, e, hb, (hW b (fun q => q) (blk_lt hbb)).trans hbb, rest⟩
/-- A table's slice is stored. -/
theorem Tab.store {w : World} {t : Nat} {v v' : Value} {l' : List (Int × Int)} (hb : w.heap[t]? = some (.cells #[v] 64 (0, 0))) (hr : Rw 68 w v' l') (hne : v'.ownBlock ≠ some t) : Tab (w.setCell ⟨t, 0, none⟩ v') t v' l' := by
  refine ⟨by rw [heap_setCell_same w t 0 #[v] 64 v' hb]; rfl, ?_⟩
  exact hr.keep (S := fun k => k = t) ((Chg.refl (fun k => k = t) w).set ⟨t, 0, none⟩ v' (fun _ => rfl)) (fun k hk e => hne (by rw [hk, e]))
theorem pos_le (l : List (Int × Int)) (x : Int × Int) : pos l x ≤ l.length := List.findIdx_le_length
set_option maxRecDepth 100000 in
set_option maxHeartbeats 8000000 in
theorem Set_full (w : World) (t : Nat) (v : Value) (l : List (Int × Int)) (h : Tab w t v l) (id at_ : Int) (hf : ¬ l.findIdx (isId id) < l.length) (hl : l.length = 64) :
    Calls Try.prog 13 #[.pointer (some ⟨t, 0, none⟩), .int .i64 id, .int .i64 at_] w fun e w' => e = .returned (.int .i64 7) ∧ Below w.heap.size w w' := by
  obtain ⟨A, c, rfl, _⟩ := h.row.slice
  have HT := Lib.hid h
  have hidx : idx l id = -1 := by unfold idx; rw [if_neg hf]
  have HI := Lib.hid hidx
  have HL := Lib.hid hl
  clear hidx h
  obtain ⟨n, hn⟩ : ∃ n, l.length = n := ⟨_, rfl⟩
  rw [hn] at HT hl
  subst hl
  clear hf hn
  go_enter Try.func13, Try.ntmps13
  go_wp2_with (go_at_call 33; (with_reducible refine (find_calls _ t _ l HT.out (by rw [HL.out]; decide) id).mono ?_); rintro e w1 ⟨rfl, hb⟩; rw [HI.out]; have hc1 := (HT.out.below hb).cell)
  go_ret
  exact ⟨rfl, hb⟩
set_option maxRecDepth 100000 in
theorem Set_nil (w : World) (id at_ : Int) : Calls Try.prog 13 #[.pointer none, .int .i64 id, .int .i64 at_] w fun e w' => e = .returned (.int .i64 2) ∧ Below w.heap.size w w' := by
  go_enter Try.func13, Try.ntmps13
  go_wp2_with (go_at_call 33; (with_reducible refine (find_nil _ id).mono ?_); rintro e w1 ⟨rfl, hb⟩)
  go_ret
  exact ⟨rfl, hb⟩
set_option maxRecDepth 100000 in
set_option maxHeartbeats 8000000 in
theorem Set_new (w : World) (t : Nat) (v : Value) (l : List (Int × Int)) (h : Tab w t v l) (ho : Ord l) (id at_ : Int) (hf : ¬ l.findIdx (isId id) < l.length) (hl : l.length < 64) :
    Calls Try.prog 13 #[.pointer (some ⟨t, 0, none⟩), .int .i64 id, .int .i64 at_] w fun e w' => ∃ v', e = .returned (.int .i64 0) ∧ Tab w' t v' (ins l (pos l (id, at_)) (id, at_)) ∧ Chg (Ft t v) w w' ∧ (v'.ownBlock = v.ownBlock ∨ ∃ b, v'.ownBlock = some b ∧ w.heap.size ≤ b) := by
  obtain ⟨A, c, rfl, _⟩ := h.row.slice
  have HT := Lib.hid h
  have hidx : idx l id = -1 := by unfold idx; rw [if_neg hf]
  have HI := Lib.hid hidx
  have HO := Lib.hid ho
  clear hidx h ho hf
  obtain ⟨n, hn⟩ : ∃ n, l.length = n := ⟨_, rfl⟩
  rw [hn] at HT hl ⊢
  have HL := Lib.hid hn
  have hl2 : ¬ ((n : Int) = 64) := by omega
  clear hn
  go_enter Try.func13, Try.ntmps13
  go_wp2_with (go_at_call 33; (with_reducible refine (find_calls _ t _ l HT.out (by rw [HL.out]; omega) id).mono ?_); rintro e W3 ⟨rfl, hb⟩; rw [HI.out]; have hc1 := (HT.out.below hb).cell)
  have T3 := Lib.hid (HT.out.below hb)
  have HO1 := HO
  have HLN := HL
  have HLE : Hid (l.length ≤ 4096) := Lib.hid (by rw [HL.out]; omega)
  -- the world W3, in which the table holds l by .slice A n c
  generalize hgx : W3.heap.size = gx
  generalize hW4 : W3.alloc (.cells #[.int .i64 id, .int .i64 at_] 68 (0, 0)) = W4
  have hB4 : Below W3.heap.size W3 W4 := by rw [← hW4]; exact below_alloc (Below.refl _ _) _
  have hx4 : W4.heap[gx]? = some (.cells #[.int .i64 id, .int .i64 at_] 68 (0, 0)) := by rw [← hW4, ← hgx]; exact blk_new W3 _
  have hp : Tr (fun _ => False) W4 (fun W => Tab W t (.slice A n c) l ∧ ∀ j u, [Value.int .i64 id, .int .i64 at_][j]? = some u → W.cell? ((⟨gx, 0, none⟩ : Addr).add j) = some u) := fun W' hW' =>
    ⟨(T3.out.below hB4).same hW', fun j u hu => by
      rw [add_off, blk_cell ((hW' gx (fun q => q) (blk_lt hx4)).trans hx4)]
      match j, hu with
      | 0, hu => exact hu
      | 1, hu => exact hu⟩
  have H := Fr.start (A := fun _ => False) (w := W4) (fun _ h => h.elim) hp
  have HB4 := Lib.hid hB4
  obtain ⟨pz, hpz⟩ : ∃ pz, pos l (id, at_) = pz := ⟨_, rfl⟩
  obtain ⟨fz, hfz⟩ : ∃ fz, fnd l (id, at_) = fz := ⟨_, rfl⟩
  have hple : pz ≤ l.length := by rw [← hpz]; exact pos_le _ _
  have HSR := Lib.hid (fun W (h : Rw 68 W (.slice A n c) l) => Search_calls W _ l h HO1.out HLE.out (id, at_))
  rw [hpz, hfz] at HSR
  have HPZ := Lib.hid hpz
  have HPL := Lib.hid hple
  clear hpz hfz hple
  clear hp hgx hW4 hB4 hx4
  refine fr_region H (by kernel_rfl) (by kernel_rfl) ?_
  clear H
  repeat (first
    | go_big_quiet_skip
    | ((with_reducible refine qg_move rfl ?_); go_big_quiet_want; go_big_quiet_op; go_big_quiet_on)
    | ((with_reducible refine qg_assign rfl ?_); go_big_quiet_want; go_big_quiet_op; go_big_quiet_on)
    | ((with_reducible refine qg_load rfl ?_); refine q_cell (by rfl) rfl (ad := ⟨t, 0, none⟩) (by first | rfl | (go_simp; done) | (go_simp; rfl)) Try.underlying62 rfl (fun W h => h.1.cell) ?_; simp only [Act.put, List.setIfInBounds_toArray, List.set_cons_zero, List.set_cons_succ])
    | ((with_reducible refine qg_load rfl ?_); refine q_cells (by rfl) rfl (ad := ⟨gx, 0, none⟩) (cs := [.int .i64 id, .int .i64 at_]) (by first | rfl | (go_simp; done) | (go_simp; rfl)) Try.underlying68 rfl (by kernel_rfl) (fun W h => h.2) ?_; simp only [Act.put, List.setIfInBounds_toArray, List.set_cons_zero, List.set_cons_succ])
    | ((with_reducible refine qg_call (f := 35) rfl ?_); refine q_call (by rfl) (f := 35) (args := #[.slice A n c, .agg #[.int .i64 id, .int .i64 at_], .func (.func 36) #[] #[]]) (fun W => by first | (go_simp; done) | (go_simp; rfl)) (fun W H => HSR.out W H.now.1.row) ?_; simp only [Act.put, List.setIfInBounds_toArray, List.set_cons_zero, List.set_cons_succ])
    | ((with_reducible refine qg_load rfl ?_); first | (refine q_load (by rfl) rfl rfl (by (repeat (first | exact At.head | apply At.tail)); done) (by first | exact Try.underlying62 | exact Try.underlying68 | exact Try.underlying3) (by rfl) (by kernel_rfl) ?_; simp only [Act.put, List.setIfInBounds_toArray, List.set_cons_zero, List.set_cons_succ]) | (refine q_get (by rfl) rfl rfl (by (repeat (first | exact At.head | apply At.tail)); done) (by first | exact Try.underlying62 | exact Try.underlying68 | exact Try.underlying3) (by rfl) (by simp only [List.getElem?_toArray, List.getElem?_cons_succ, List.getElem?_cons_zero]; rfl) ?_; simp only [Act.put, List.setIfInBounds_toArray, List.set_cons_zero, List.set_cons_succ]) | (refine q_sub2 (by rfl) rfl rfl (by (repeat (first | exact At.head | apply At.tail)); done) (by first | exact Try.underlying62 | exact Try.underlying68 | exact Try.underlying3) (by rfl) (by kernel_rfl) (by simp only [List.getElem?_toArray, List.getElem?_cons_succ, List.getElem?_cons_zero]; rfl) (by simp only [List.getElem?_toArray, List.getElem?_cons_succ, List.getElem?_cons_zero]; rfl) ?_; simp only [Act.put, List.setIfInBounds_toArray, List.set_cons_zero, List.set_cons_succ]))
    | (refine q_pureK (by rfl) (fun W K hK => by go_simp; exact hK.out) ?_; simp only [Act.put, List.setIfInBounds_toArray, List.set_cons_zero, List.set_cons_succ]))
  refine q_end ?_
  intro W5 H
  generalize W5 = W6 at H
  have hcx : W6.cell? ⟨gx, 0, none⟩ = some (.int .i64 id) := by simpa [add_off] using H.now.2 0 _ rfl
  have hcx1 : W6.cell? ⟨gx, 1, none⟩ = some (.int .i64 at_) := by simpa [add_off] using H.now.2 1 _ rfl
  have hct := H.now.1.cell
  have T6 := H.now.1
  have hB7 : Below W6.heap.size W6 (W6.alloc (.cells #[.int .i64 id, .int .i64 at_] 68 (0, 0))).drew := below_drew (below_alloc (Below.refl _ _) _)
  have T7 := T6.below hB7
  have hx7 : (W6.alloc (.cells #[.int .i64 id, .int .i64 at_] 68 (0, 0))).drew.heap[W6.heap.size]? = some (.cells #[.int .i64 id, .int .i64 at_] 68 (0, 0)) := blk_new W6 _
  have hins : Calls Try.prog 39 #[.slice A n c, .int .i64 pz, .slice (some ⟨W6.heap.size, 0, none⟩) 1 1] (W6.alloc (.cells #[.int .i64 id, .int .i64 at_] 68 (0, 0))).drew fun e w' =>
      ∃ A2 c2, e = .returned (.slice A2 (n + 1) c2) ∧ w'.cell? ⟨t, 0, none⟩ = some (.slice A n c) ∧ w'.frozen? ⟨t, 0, none⟩ = false ∧
        Hid (Tab (w'.setCell ⟨t, 0, none⟩ (.slice A2 (n + 1) c2)) t (.slice A2 (n + 1) c2) (ins l pz (id, at_)) ∧ Chg (Ft t (.slice A n c)) W6 (w'.setCell ⟨t, 0, none⟩ (.slice A2 (n + 1) c2)) ∧
          ((Value.slice A2 (n + 1) c2).ownBlock = (Value.slice A n c).ownBlock ∨ ∃ b, (Value.slice A2 (n + 1) c2).ownBlock = some b ∧ W6.heap.size ≤ b)) := by
    refine (Insert_calls _ (.slice A n c) l (id, at_) pz HPL.out HLE.out T7.row W6.heap.size hx7 (fun e => by have := (T6.row.lt _ e).2; exact absurd this (Nat.lt_irrefl _))).mono ?_
    rintro e w' ⟨v', rfl, hr, hc, hloc⟩
    obtain ⟨A2, c2, hv, _⟩ := hr.slice
    rw [ins_length _ _ _ HPL.out, HLN.out] at hv
    subst hv
    have hne := T7.ne
    have hbt : w'.heap[t]? = some (.cells #[.slice A n c] 64 (0, 0)) := (hc.block t T7.lt (fun e => hne e)).trans T7.blk
    have hne2 : (Value.slice A2 (n + 1) c2).ownBlock ≠ some t := by
      rcases hloc with e | ⟨b, e, hb⟩
      · rw [e]; exact hne
      · rw [e]; intro q; injection q with q; have := T7.lt; omega
    have hchg : Chg (Ft t (.slice A n c)) W6 w' := (Chg.of_below hB7).trans hc (fun i _ q => .inr q)
    refine ⟨A2, c2, rfl, blk_cell hbt 0, blk_frozen hbt 0, Lib.hid ⟨Tab.store hbt hr hne2, hchg.set ⟨t, 0, none⟩ _ (fun _ => .inl rfl), ?_⟩⟩
    rcases hloc with e | ⟨b, e, hb⟩
    · exact .inl e
    · exact .inr ⟨b, e, Nat.le_trans hB7.size hb⟩
  have HB6 := Lib.hid H.below
  have htl := T6.lt
  have hgl := World.block_lt_of_cell? W6 _ hcx
  clear H hB7 T7 hx7 T6
  go_wp2
  go_region_with (go_at_call 39; refine hins.mono ?_; rintro e w7 ⟨A2, c2, rfl, hct7, hfz7, HP7⟩)
  all_goals (
    go_wp2
    go_ret
    have hB36 : Below W3.heap.size W3 W6 := HB4.out.trans (HB6.out.mono HB4.out.size)
    exact ⟨_, rfl, HPZ.out ▸ HP7.out.1, (Chg.of_below (hb.trans (hB36.mono hb.size))).trans HP7.out.2.1 (fun i _ q => q), HP7.out.2.2.imp (fun q => q) (fun ⟨b, e, hbb⟩ => ⟨b, e, Nat.le_trans hb.size (Nat.le_trans hB36.size hbb)⟩)⟩)
/-- One timer is taken away, ahead of the store. -/
theorem del_calls (w : World) (t : Nat) (A : Option Addr) (n c : Nat) (l : List (Int × Int)) (i : Nat) (h : Tab w t (.slice A n c) l) (hn : l.length = n) (hi : i < n) :
    Calls Try.prog 34 #[.slice A n c, .int .i64 i, .int .i64 ((i : Int) + 1)] w fun e w' => ∃ A1 c1, e = .returned (.slice A1 (n - 1) c1) ∧ w'.cell? ⟨t, 0, none⟩ = some (.slice A n c) ∧ w'.frozen? ⟨t, 0, none⟩ = false ∧
      Hid (Tab (w'.setCell ⟨t, 0, none⟩ (.slice A1 (n - 1) c1)) t (.slice A1 (n - 1) c1) (l.eraseIdx i) ∧ Chg (Ft t (.slice A n c)) w (w'.setCell ⟨t, 0, none⟩ (.slice A1 (n - 1) c1)) ∧ (Value.slice A1 (n - 1) c1).ownBlock = (Value.slice A n c).ownBlock) := by
  refine (Delete_calls w (.slice A n c) l i (by omega) h.row).mono ?_
  rintro e w' ⟨v', rfl, hr, hown, hc⟩
  obtain ⟨A1, c1, hv, _⟩ := hr.slice
  rw [List.length_eraseIdx_of_lt (by omega), hn] at hv
  subst hv
  have hne := h.ne
  have hbt : w'.heap[t]? = some (.cells #[.slice A n c] 64 (0, 0)) := (hc.block t h.lt (fun e => hne e)).trans h.blk
  have hchg : Chg (Ft t (.slice A n c)) w w' := hc.mono (fun i _ q => .inr q)
  exact ⟨A1, c1, rfl, blk_cell hbt 0, blk_frozen hbt 0, Lib.hid ⟨Tab.store hbt hr (by rw [hown]; exact hne), hchg.set ⟨t, 0, none⟩ _ (fun _ => .inl rfl), hown⟩⟩
set_option maxRecDepth 100000 in
set_option maxHeartbeats 8000000 in
theorem Set_old (w : World) (t : Nat) (v : Value) (l : List (Int × Int)) (h : Tab w t v l) (ho : Ord l) (id at_ : Int) (hf : l.findIdx (isId id) < l.length) (hl : l.length ≤ 64) :
    Calls Try.prog 13 #[.pointer (some ⟨t, 0, none⟩), .int .i64 id, .int .i64 at_] w fun e w' => ∃ v', e = .returned (.int .i64 0) ∧ Tab w' t v' (ins (rem l id) (pos (rem l id) (id, at_)) (id, at_)) ∧ Chg (Ft t v) w w' ∧ (v'.ownBlock = v.ownBlock ∨ ∃ b, v'.ownBlock = some b ∧ w.heap.size ≤ b) := by
  obtain ⟨A, c, rfl, _⟩ := h.row.slice
  have HT := Lib.hid h
  obtain ⟨i, hi⟩ : ∃ i, l.findIdx (isId id) = i := ⟨_, rfl⟩
  have hidx : idx l id = (i : Int) := by unfold idx; rw [if_pos hf, hi]
  have HI := Lib.hid hidx
  obtain ⟨l1, hl1⟩ : ∃ l1, rem l id = l1 := ⟨_, rfl⟩
  have ho1 := rem_ord ho id
  have hle := rem_length l id
  have hre : l.eraseIdx i = l1 := by rw [← hl1, ← hi]; rfl
  have hlen : l1.length = l.length - 1 := by rw [← hre, List.length_eraseIdx_of_lt (by omega)]
  rw [hl1] at ho1 hle ⊢
  have HO1 := Lib.hid ho1
  have HRE := Lib.hid hre
  have HLE : Hid (l1.length ≤ 4096) := Lib.hid (by omega)
  rw [hi] at hf
  clear hidx h ho hi hl1 ho1 hle hre
  obtain ⟨n, hn⟩ : ∃ n, l.length = n := ⟨_, rfl⟩
  rw [hn] at HT hl hf hlen ⊢
  have HL := Lib.hid hn
  have HLN := Lib.hid hlen
  have hb1 : (0 : Int) ≤ (i : Int) := by omega
  clear hn hlen
  go_enter Try.func13, Try.ntmps13
  go_wp2_with (first
    | (go_at_call 33; (with_reducible refine (find_calls _ t _ l HT.out (by rw [HL.out]; omega) id).mono ?_); rintro e W1 ⟨rfl, hb⟩; rw [HI.out]; have T1 := Lib.hid (HT.out.below hb); have hc1 := T1.out.cell)
    | (go_at_call 34; (with_reducible refine (del_calls _ t A n c l i T1.out HL.out hf).mono ?_); rintro e W2 ⟨A1, c1, rfl, hc2, hf2, HP2⟩))
  have hs : W2.heap.size = (W2.setCell ⟨t, 0, none⟩ (.slice A1 (n - 1) c1)).heap.size := by simp [World.setCell]
  rw [hs]
  generalize hW3 : W2.setCell ⟨t, 0, none⟩ (.slice A1 (n - 1) c1) = W3 at HP2 ⊢
  have t3 := HP2.out.1
  rw [HRE.out] at t3
  have T3 := Lib.hid t3
  clear hs hW3 t3
  -- the world W3, in which the table holds l1 by .slice A1 (n - 1) c1
  generalize hgx : W3.heap.size = gx
  generalize hW4 : W3.alloc (.cells #[.int .i64 id, .int .i64 at_] 68 (0, 0)) = W4
  have hB4 : Below W3.heap.size W3 W4 := by rw [← hW4]; exact below_alloc (Below.refl _ _) _
  have hx4 : W4.heap[gx]? = some (.cells #[.int .i64 id, .int .i64 at_] 68 (0, 0)) := by rw [← hW4, ← hgx]; exact blk_new W3 _
  have hp : Tr (fun _ => False) W4 (fun W => Tab W t (.slice A1 (n - 1) c1) l1 ∧ ∀ j u, [Value.int .i64 id, .int .i64 at_][j]? = some u → W.cell? ((⟨gx, 0, none⟩ : Addr).add j) = some u) := fun W' hW' =>
    ⟨(T3.out.below hB4).same hW', fun j u hu => by
      rw [add_off, blk_cell ((hW' gx (fun q => q) (blk_lt hx4)).trans hx4)]
      match j, hu with
      | 0, hu => exact hu
      | 1, hu => exact hu⟩
  have H := Fr.start (A := fun _ => False) (w := W4) (fun _ h => h.elim) hp
  have HB4 := Lib.hid hB4
  obtain ⟨pz, hpz⟩ : ∃ pz, pos l1 (id, at_) = pz := ⟨_, rfl⟩
  obtain ⟨fz, hfz⟩ : ∃ fz, fnd l1 (id, at_) = fz := ⟨_, rfl⟩
  have hple : pz ≤ l1.length := by rw [← hpz]; exact pos_le _ _
  have HSR := Lib.hid (fun W (h : Rw 68 W (.slice A1 (n - 1) c1) l1) => Search_calls W _ l1 h HO1.out HLE.out (id, at_))
  rw [hpz, hfz] at HSR
  have HPZ := Lib.hid hpz
  have HPL := Lib.hid hple
  clear hpz hfz hple
  clear hp hgx hW4 hB4 hx4
  refine fr_region H (by kernel_rfl) (by kernel_rfl) ?_
  clear H
  repeat (first
    | go_big_quiet_skip
    | ((with_reducible refine qg_move rfl ?_); go_big_quiet_want; go_big_quiet_op; go_big_quiet_on)
    | ((with_reducible refine qg_assign rfl ?_); go_big_quiet_want; go_big_quiet_op; go_big_quiet_on)
    | ((with_reducible refine qg_load rfl ?_); refine q_cell (by rfl) rfl (ad := ⟨t, 0, none⟩) (by first | rfl | (go_simp; done) | (go_simp; rfl)) Try.underlying62 rfl (fun W h => h.1.cell) ?_; simp only [Act.put, List.setIfInBounds_toArray, List.set_cons_zero, List.set_cons_succ])
    | ((with_reducible refine qg_load rfl ?_); refine q_cells (by rfl) rfl (ad := ⟨gx, 0, none⟩) (cs := [.int .i64 id, .int .i64 at_]) (by first | rfl | (go_simp; done) | (go_simp; rfl)) Try.underlying68 rfl (by kernel_rfl) (fun W h => h.2) ?_; simp only [Act.put, List.setIfInBounds_toArray, List.set_cons_zero, List.set_cons_succ])
    | ((with_reducible refine qg_call (f := 35) rfl ?_); refine q_call (by rfl) (f := 35) (args := #[.slice A1 (n - 1) c1, .agg #[.int .i64 id, .int .i64 at_], .func (.func 36) #[] #[]]) (fun W => by first | (go_simp; done) | (go_simp; rfl)) (fun W H => HSR.out W H.now.1.row) ?_; simp only [Act.put, List.setIfInBounds_toArray, List.set_cons_zero, List.set_cons_succ])
    | ((with_reducible refine qg_load rfl ?_); first | (refine q_load (by rfl) rfl rfl (by (repeat (first | exact At.head | apply At.tail)); done) (by first | exact Try.underlying62 | exact Try.underlying68 | exact Try.underlying3) (by rfl) (by kernel_rfl) ?_; simp only [Act.put, List.setIfInBounds_toArray, List.set_cons_zero, List.set_cons_succ]) | (refine q_get (by rfl) rfl rfl (by (repeat (first | exact At.head | apply At.tail)); done) (by first | exact Try.underlying62 | exact Try.underlying68 | exact Try.underlying3) (by rfl) (by simp only [List.getElem?_toArray, List.getElem?_cons_succ, List.getElem?_cons_zero]; rfl) ?_; simp only [Act.put, List.setIfInBounds_toArray, List.set_cons_zero, List.set_cons_succ]) | (refine q_sub2 (by rfl) rfl rfl (by (repeat (first | exact At.head | apply At.tail)); done) (by first | exact Try.underlying62 | exact Try.underlying68 | exact Try.underlying3) (by rfl) (by kernel_rfl) (by simp only [List.getElem?_toArray, List.getElem?_cons_succ, List.getElem?_cons_zero]; rfl) (by simp only [List.getElem?_toArray, List.getElem?_cons_succ, List.getElem?_cons_zero]; rfl) ?_; simp only [Act.put, List.setIfInBounds_toArray, List.set_cons_zero, List.set_cons_succ]))
    | (refine q_pureK (by rfl) (fun W K hK => by go_simp; exact hK.out) ?_; simp only [Act.put, List.setIfInBounds_toArray, List.set_cons_zero, List.set_cons_succ]))
  refine q_end ?_
  intro W5 H
  generalize W5 = W6 at H
  have hcx : W6.cell? ⟨gx, 0, none⟩ = some (.int .i64 id) := by simpa [add_off] using H.now.2 0 _ rfl
  have hcx1 : W6.cell? ⟨gx, 1, none⟩ = some (.int .i64 at_) := by simpa [add_off] using H.now.2 1 _ rfl
  have hct := H.now.1.cell
  have T6 := H.now.1
  have hB7 : Below W6.heap.size W6 (W6.alloc (.cells #[.int .i64 id, .int .i64 at_] 68 (0, 0))).drew := below_drew (below_alloc (Below.refl _ _) _)
  have T7 := T6.below hB7
  have hx7 : (W6.alloc (.cells #[.int .i64 id, .int .i64 at_] 68 (0, 0))).drew.heap[W6.heap.size]? = some (.cells #[.int .i64 id, .int .i64 at_] 68 (0, 0)) := blk_new W6 _
  have hins : Calls Try.prog 39 #[.slice A1 (n - 1) c1, .int .i64 pz, .slice (some ⟨W6.heap.size, 0, none⟩) 1 1] (W6.alloc (.cells #[.int .i64 id, .int .i64 at_] 68 (0, 0))).drew fun e w' =>
      ∃ A2 c2, e = .returned (.slice A2 ((n - 1) + 1) c2) ∧ w'.cell? ⟨t, 0, none⟩ = some (.slice A1 (n - 1) c1) ∧ w'.frozen? ⟨t, 0, none⟩ = false ∧
        Hid (Tab (w'.setCell ⟨t, 0, none⟩ (.slice A2 ((n - 1) + 1) c2)) t (.slice A2 ((n - 1) + 1) c2) (ins l1 pz (id, at_)) ∧ Chg (Ft t (.slice A1 (n - 1) c1)) W6 (w'.setCell ⟨t, 0, none⟩ (.slice A2 ((n - 1) + 1) c2)) ∧
          ((Value.slice A2 ((n - 1) + 1) c2).ownBlock = (Value.slice A1 (n - 1) c1).ownBlock ∨ ∃ b, (Value.slice A2 ((n - 1) + 1) c2).ownBlock = some b ∧ W6.heap.size ≤ b)) := by
    refine (Insert_calls _ (.slice A1 (n - 1) c1) l1 (id, at_) pz HPL.out HLE.out T7.row W6.heap.size hx7 (fun e => by have := (T6.row.lt _ e).2; exact absurd this (Nat.lt_irrefl _))).mono ?_
    rintro e w' ⟨v', rfl, hr, hc, hloc⟩
    obtain ⟨A2, c2, hv, _⟩ := hr.slice
    rw [ins_length _ _ _ HPL.out, HLN.out] at hv
    subst hv
    have hne := T7.ne
    have hbt : w'.heap[t]? = some (.cells #[.slice A1 (n - 1) c1] 64 (0, 0)) := (hc.block t T7.lt (fun e => hne e)).trans T7.blk
    have hne2 : (Value.slice A2 ((n - 1) + 1) c2).ownBlock ≠ some t := by
      rcases hloc with e | ⟨b, e, hb⟩
      · rw [e]; exact hne
      · rw [e]; intro q; injection q with q; have := T7.lt; omega
    have hchg : Chg (Ft t (.slice A1 (n - 1) c1)) W6 w' := (Chg.of_below hB7).trans hc (fun i _ q => .inr q)
    refine ⟨A2, c2, rfl, blk_cell hbt 0, blk_frozen hbt 0, Lib.hid ⟨Tab.store hbt hr hne2, hchg.set ⟨t, 0, none⟩ _ (fun _ => .inl rfl), ?_⟩⟩
    rcases hloc with e | ⟨b, e, hb⟩
    · exact .inl e
    · exact .inr ⟨b, e, Nat.le_trans hB7.size hb⟩
  have HB6 := Lib.hid H.below
  have htl := T6.lt
  have hgl := World.block_lt_of_cell? W6 _ hcx
  clear H hB7 T7 hx7 T6
  go_wp2
  go_region_with (go_at_call 39; refine hins.mono ?_; rintro e w7 ⟨A2, c2, rfl, hct7, hfz7, HP7⟩)
  all_goals (
    go_wp2
    go_ret
    have hB36 : Below W3.heap.size W3 W6 := HB4.out.trans (HB6.out.mono HB4.out.size)
    exact ⟨_, rfl, HPZ.out ▸ HP7.out.1, (((Chg.of_below hb).trans HP2.out.2.1 (fun i _ q => q)).trans (Chg.of_below (S := fun _ => False) hB36) (fun i _ q => q.elim)).trans HP7.out.2.1 (fun i _ q => q.imp (fun z => z) (fun z => HP2.out.2.2.symm.trans z)), HP7.out.2.2.imp (fun q => q.trans HP2.out.2.2) (fun ⟨b, e, hbb⟩ => ⟨b, e, Nat.le_trans hb.size (Nat.le_trans HP2.out.2.1.size (Nat.le_trans hB36.size hbb))⟩)⟩)
theorem Set_calls (w : World) (t : Nat) (v : Value) (l : List (Int × Int)) (h : Tab w t v l) (ho : Ord l) (id at_ : Int) (hl : l.length ≤ 64) :
    Calls Try.prog 13 #[.pointer (some ⟨t, 0, none⟩), .int .i64 id, .int .i64 at_] w fun e w' => ∃ v', e = .returned (.int .i64 (setL l id at_).1) ∧ Tab w' t v' (setL l id at_).2 ∧ Chg (Ft t v) w w' ∧ (v'.ownBlock = v.ownBlock ∨ ∃ b, v'.ownBlock = some b ∧ w.heap.size ≤ b) := by
  unfold setL
  by_cases hf : l.findIdx (isId id) < l.length
  · rw [if_neg (fun q => q.1 hf)]
    exact Set_old w t v l h ho id at_ hf hl
  · by_cases h64 : l.length = 64
    · rw [if_pos ⟨hf, h64⟩]
      refine (Set_full w t v l h id at_ hf h64).mono ?_
      rintro e w' ⟨rfl, hb⟩
      exact ⟨v, rfl, h.below hb, Chg.of_below hb, .inl rfl⟩
    · rw [if_neg (fun q => h64 q.2), rem_none hf]
      exact Set_new w t v l h ho id at_ hf (by omega)
end Go.Proofs.Ytcopnddmkmgihaa.Ak
