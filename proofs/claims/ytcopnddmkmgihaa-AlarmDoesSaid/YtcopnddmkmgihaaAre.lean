/- alarm: the reference's table beside one that stands in order: when, and which go off. -/
import Derived.Test.YtcopnddmkmgihaaAqd
namespace Go.Proofs.Ytcopnddmkmgihaa.Ak
open Go.RowKit Go.Proofs.YtcopnddmkmgihaaW.PrintWords Go.Proofs.YtcopnddmkmgihaaW.PrintLast Go.Proofs.YtcopnddmkmgihaaW.PrintMore Go.Proofs.YtcopnddmkmgihaaEv
set_option linter.unusedVariables false
set_option linter.unusedSimpArgs false
/-- The first one is the first of those that stand in order. -/
theorem best_to {l m : List (Int × Int)} {i : Int} (ho : Ord l) (hp : l.Perm m) (h : isBest m i) : (l = [] ∧ i = -1) ∨ ∃ x r, l = x :: r ∧ ∃ (b : Nat) (hb : b < m.length), i = b ∧ m[b] = x := by
  rcases h with ⟨rfl, rfl⟩ | ⟨b, hb, rfl, hq⟩
  · exact .inl ⟨hp.eq_nil, rfl⟩
  · cases l with
    | nil => have := hp.length_eq; simp at this; omega
    | cons x r =>
      refine .inr ⟨x, r, rfl, b, hb, rfl, ?_⟩
      have hx : x ∈ m := hp.mem_iff.1 List.mem_cons_self
      obtain ⟨j, hj, e⟩ := List.mem_iff_getElem.1 hx
      have h1 := hq j hj
      rw [e] at h1
      have hm : m[b] ∈ x :: r := hp.mem_iff.2 (List.getElem_mem hb)
      rcases List.mem_cons.1 hm with e2 | h2
      · exact e2
      · rw [(List.pairwise_cons.1 ho).1 _ h2] at h1
        cases h1
theorem flt_perm {l m : List (Int × Int)} (hp : l.Perm m) (id : Int) : (flt l id).Perm (flt m id) := hp.filter _
theorem flt_head {x : Int × Int} {r : List (Int × Int)} (h : ((x :: r).map (·.1)).Nodup) : flt (x :: r) x.1 = r := by
  rw [List.map_cons, List.nodup_cons] at h
  unfold flt
  rw [List.filter_cons_of_neg (by simp [isId]), List.filter_eq_self]
  intro y hy
  have : y.1 ≠ x.1 := fun e => h.1 (e ▸ List.mem_map_of_mem hy)
  simpa [isId] using this
theorem first_to {w : World} {r : Nat} {v : Value} {m : List (Int × Int)} (h : RTab w r v m) (hl : m.length ≤ 64) : Calls Try.prog 40 #[.pointer (some ⟨r, 0, none⟩)] w fun e w' => ∃ i, e = .returned (.int .i64 i) ∧ Hid (isBest m i) ∧ Hid (Below w.heap.size w w') := by
  refine (first_calls w r v m h (by omega)).mono ?_
  rintro e w' ⟨i, rfl, h1, h2⟩
  exact ⟨i, rfl, Lib.hid h1, Lib.hid h2⟩
theorem RDrop_to {w : World} {r : Nat} {v : Value} {m : List (Int × Int)} (h : RTab w r v m) (id : Int) (hl : m.length ≤ 64) :
    Calls Try.prog 19 #[.pointer (some ⟨r, 0, none⟩), .int .i64 id] w fun e w' => e = .returned (.int .i64 (anyE m id)) ∧ ∃ u, Hid (RTab w' r u (flt m id)) ∧ Hid (Chg (fun k => k = r) w w') := by
  refine (RDrop_calls w r v m h id (by omega)).mono ?_
  rintro e w' ⟨rfl, u, h1, h2, h3⟩
  exact ⟨rfl, u, Lib.hid h1, Lib.hid h3⟩
set_option maxRecDepth 100000 in
set_option maxHeartbeats 8000000 in
theorem RNext_calls (w : World) (r : Nat) (v : Value) (l m : List (Int × Int)) (h : RTab w r v m) (ho : Ord l) (hp : l.Perm m) (hl : l.length ≤ 64) :
    Calls Try.prog 22 #[.pointer (some ⟨r, 0, none⟩)] w fun e w' => e = .returned (.tuple #[.int .i64 (next l).1, .bool (next l).2]) ∧ Below w.heap.size w w' := by
  have hlm : m.length ≤ 64 := by rw [← hp.length_eq]; exact hl
  have hfirst : Calls Try.prog 40 #[.pointer (some ⟨r, 0, none⟩)] w fun e w' => ∃ i, e = .returned (.int .i64 i) ∧ Hid (isBest m i) ∧ Hid (Below w.heap.size w w') := first_to h hlm
  have HF := Lib.hid hfirst
  have HT := Lib.hid h
  have HM := Lib.hid hlm
  clear h hfirst hlm hl
  cases l with
  | nil =>
    have HB : Hid (∀ i, isBest m i → i = -1) := Lib.hid (fun i q => by
      rcases best_to ho hp q with ⟨_, e⟩ | ⟨x, r, e, _⟩
      · exact e
      · cases e)
    clear ho hp
    go_enter Try.func22, Try.ntmps22
    go_wp2_with (go_at_call 40; refine HF.out.mono ?_; rintro e w1 ⟨i, rfl, h1, h2⟩; obtain rfl := HB.out i h1.out)
    go_ret2
    exact ⟨rfl, h2.out⟩
  | cons x q =>
    obtain ⟨x1, x2⟩ := x
    have HB : Hid (∀ i, isBest m i → ∃ (b : Nat) (hb : b < m.length), i = b ∧ m[b] = (x1, x2)) := Lib.hid (fun i q => by
      rcases best_to ho hp q with ⟨e, _⟩ | ⟨x, r, e, h⟩
      · cases e
      · injection e with e _
        subst e
        exact h)
    clear ho hp
    obtain ⟨A, c, hv, hrow⟩ := HT.out.row.slice
    subst hv
    obtain ⟨n, hn⟩ : ∃ n, m.length = n := ⟨_, rfl⟩
    have HN := Lib.hid hn
    rw [hn] at HT hrow
    clear hn
    go_enter Try.func22, Try.ntmps22
    go_wp2_with (go_at_call 40; refine HF.out.mono ?_; rintro e w1 ⟨i, rfl, h1, h2⟩; obtain ⟨b, hb, rfl, hbx⟩ := HB.out i h1.out; have T1 := HT.out.below h2.out; have hct1 := T1.cell; have hbn : (b : Int) < (n : Int) := (by rw [← HN.out]; omega); obtain ⟨g, cur, hA, _, _⟩ := hrow (by omega); subst hA; have hc1 := T1.cell1 b hb x1 x2 hbx; have hb0 : ¬ (b : Int) < 0 := (by omega); clear T1 hbx)
    go_ret2
    exact ⟨rfl, h2.out⟩
set_option maxRecDepth 100000 in
set_option maxHeartbeats 8000000 in
theorem RDue_calls (w : World) (r : Nat) (v : Value) (l m : List (Int × Int)) (h : RTab w r v m) (hg : Good l) (hp : l.Perm m) (hl : l.length ≤ 64) (now : Int) :
    Calls Try.prog 21 #[.pointer (some ⟨r, 0, none⟩), .int .i64 now] w fun e w' => ∃ u v' m', e = .returned u ∧ w'.ownsRow w.heap.size 3 1 u (l.takeWhile (due now)).length ((l.takeWhile (due now)).map (fun x => .int .i64 x.1)) ∧ RTab w' r v' m' ∧ (l.dropWhile (due now)).Perm m' ∧ Chg (fun k => k = r) w w' := by
  have hlt := h.lt
  have HT := Lib.hid h
  have HG := Lib.hid hg
  have HL := Lib.hid hl
  have HP := Lib.hid hp
  have HM : Hid (m.length ≤ 64) := Lib.hid (by rw [← hp.length_eq]; exact hl)
  clear h hg hl hp
  go_enter Try.func21, Try.ntmps21
  go_wp2_with (go_at_call 40; refine (first_to HT.out HM.out).mono ?_; rintro e w1 ⟨i, rfl, h1, h2⟩)
  go_loopw [5, 6] (fun v5 v6 wr => ∃ (u : Value) (j : Nat) (m' : List (Int × Int)) (A : Option Addr) (n c : Nat) (i : Int), u = v5 ∧ v6 = .int .i64 i ∧ wr.cell? ⟨r, 0, none⟩ = some (.slice A n c) ∧ j + n = l.length ∧ Hid (∀ x ∈ l.take j, due now x = true) ∧ Hid ((l.drop j).Perm m') ∧ Hid (isBest m' i) ∧ Hid (RTab wr r (.slice A n c) m') ∧ Hid (Chg (fun k => k = r) w wr) ∧ Hid (wr.ownsRow w.heap.size 3 1 u j ((l.take j).map (fun x => .int .i64 x.1))))
    (fun _ _ wr => match wr.cell? ⟨r, 0, none⟩ with | some (.slice _ m _) => m | _ => 0)
  case atStart =>
    have T1 := HT.out.below h2.out
    obtain ⟨A, c, hv, _⟩ := T1.row.slice
    subst hv
    exact ⟨_, 0, m, A, _, c, i, rfl, rfl, T1.cell, by rw [HP.out.length_eq]; omega, Lib.hid (fun x hx => by simp at hx), HP, h1, Lib.hid T1, Lib.hid (Chg.of_below h2.out), Lib.hid (World.ownsRow_nil _ _ _ _)⟩
  case round =>
    clear h1 h2
    obtain ⟨u, j, m', A, n, c, i, hu, rfl, hct, hjn, HD, HPM, HBI, T, HC, HO⟩ := hrel
    subst hu
    have hnm : Hid (m'.length = n) := Lib.hid (by rw [← HPM.out.length_eq, List.length_drop]; omega)
    have hord : Ord (l.drop j) := List.Pairwise.sublist (List.drop_sublist _ _) HG.out.ord
    have hnd : ((l.drop j).map (·.1)).Nodup := List.Nodup.sublist (List.Sublist.map _ (List.drop_sublist _ _)) HG.out.nd
    have hfin : (∀ y q, l.drop j = y :: q → due now y = false) → l.takeWhile (due now) = l.take j ∧ l.dropWhile (due now) = l.drop j := fun q => while_at HD.out q
    have hjl : (l.take j).length = j := by rw [List.length_take]; omega
    rcases best_to hord HPM.out HBI.out with ⟨hdn, rfl⟩ | ⟨x, q, hdc, b, hb, rfl, hbx⟩
    · have HF := Lib.hid (hfin (fun y q e => by rw [hdn] at e; cases e))
      have HJL := Lib.hid hjl
      clear hord hnd hfin hdn hjl
      go_wp2
      go_ret
      refine ⟨_, _, m', rfl, ?_, T.out, ?_, HC.out⟩
      · rw [HF.out.1, HJL.out]
        exact HO.out
      · rw [HF.out.2]
        exact HPM.out
    · obtain ⟨x1, x2⟩ := x
      have hbn : (b : Int) < (n : Int) := by rw [← hnm.out]; omega
      have hb0 : (0 : Int) ≤ (b : Int) := by omega
      obtain ⟨A', c', hv, hrow⟩ := T.out.row.slice
      injection hv with hA _ _
      obtain ⟨g, cur, hA2, _, _⟩ := hrow (by omega)
      obtain rfl : A = some ⟨g, 0, none⟩ := hA.trans hA2
      have hc1 := T.out.cell1 b hb x1 x2 hbx
      have hc0 := T.out.cell0 b hb x1 x2 hbx
      clear hA hA2 hrow
      by_cases hd : x2 ≤ now
      · have hjlt : j < l.length := by
          have := congrArg List.length hdc
          rw [List.length_drop] at this
          simp at this
          omega
        have hlj : l[j] = (x1, x2) := by
          have := List.drop_eq_getElem_cons hjlt
          rw [hdc] at this
          injection this with this _
          exact this.symm
        have HTK : Hid (l.take (j + 1) = l.take j ++ [(x1, x2)]) := Lib.hid (by rw [List.take_succ_eq_append_getElem hjlt, hlj])
        have HPN : Hid ((l.drop (j + 1)).Perm (flt m' x1)) := Lib.hid (by
          have h3 : l.drop (j + 1) = q := by
            have := List.drop_eq_getElem_cons hjlt
            rw [hdc] at this
            injection this with _ this
            exact this.symm
          rw [h3]
          have h4 := flt_perm HPM.out x1
          rw [hdc] at h4 hnd
          rwa [flt_head hnd] at h4)
        have HDN : Hid (∀ y ∈ l.take (j + 1), due now y = true) := Lib.hid (fun y hy => by
          rw [HTK.out] at hy
          rcases List.mem_append.1 hy with hy | hy
          · exact HD.out y hy
          · rw [List.mem_singleton.1 hy]; exact decide_eq_true hd)
        have HN2 : Hid ((flt m' x1).length + 1 = n) := Lib.hid (by rw [← HPN.out.length_eq, List.length_drop]; omega)
        have HJ : Hid (j + 1 ≤ 64) := Lib.hid (by have := HL.out; omega)
        have d1 : decide (x2 ≤ now) = true := decide_eq_true hd
        have HJN := Lib.hid hjn
        clear hord hnd hfin hdc hd hjlt hlj hjl hbx hb hjn
        go_wp2_with (first
          | (at_builtin; refine print_append_cells (w0 := _) w.heap.size rfl _ _ 22 3 (.int .i64 0) 1 8 rfl Try.underlying22 info3 rfl (by decide) (by decide) u j ((l.take j).map (fun x => .int .i64 x.1)) [.int .i64 x1] rfl rfl rfl (by simp [Value.oneCell']) HO.out ⟨rfl, rfl, rfl, Nat.le_refl _, fun _ _ => rfl⟩ HC.out.size (by have := HJ.out; omega) ?_; intro u' w1 hown' hB1 hgrow hat; have HW := Lib.hid (Chg.of_grown hgrow (S := fun k => u.ownBlock = some k) (fun k e => e)); have HO1 := Lib.hid hown'; have T1 := Lib.hid (T.out.keep HW.out (fun e => by have := own_base HO.out r e; omega) (fun k e e2 => by rcases own_type_ne HO.out T.out.row (by decide) with z | z; exact absurd (z.symm.trans e2) (by simp); exact z (e2.trans e.symm))); clear hown' hB1 hgrow hat)
          | (go_at_call 19; refine (RDrop_to T1.out x1 (by have := hnm.out; have := HJ.out; have := HJN.out; have := HL.out; omega)).mono ?_; rintro e w2 ⟨rfl, v2, T2, HC2⟩)
          | (go_at_call 40; refine (first_to T2.out (by have := HN2.out; have := HJN.out; have := HL.out; omega)).mono ?_; rintro e w3 ⟨i3, rfl, HB3, HW3⟩))
        obtain ⟨A3, c3, hv3, _⟩ := (T2.out.below HW3.out).row.slice
        subst hv3
        have T3 := T2.out.below HW3.out
        go_roundw
        case rel =>
          refine ⟨_, j + 1, _, A3, _, c3, i3, rfl, rfl, T3.cell, by have := HN2.out; have := HJN.out; omega, HDN, HPN, HB3, Lib.hid T3, Lib.hid ?_, Lib.hid ?_⟩
          · exact ((HC.out.trans HW.out (fun k hk e => by have := own_base HO.out k e; omega)).trans HC2.out (fun _ _ q => q)).trans (S' := fun _ => False) (Chg.of_below HW3.out) (fun _ _ q => q.elim)
          · rw [HTK.out, List.map_append]
            exact ownsRow_chg (S := fun _ => False) (ownsRow_chg HO1.out HC2.out (fun k e => by omega)) (Chg.of_below HW3.out) (fun _ q => q.elim)
        case measure => rw [T3.cell, hct]; show (flt m' x1).length < n; exact Nat.lt_of_succ_le (Nat.le_of_eq HN2.out)
      · have HF := Lib.hid (hfin (fun y q' e => by
          rw [hdc] at e
          injection e with e _
          subst e
          exact decide_eq_false hd))
        have HJL := Lib.hid hjl
        have d1 : decide (x2 ≤ now) = false := decide_eq_false hd
        clear hord hnd hfin hdc hd hjl hbx hb
        go_wp2
        go_ret
        refine ⟨_, _, m', rfl, ?_, T.out, ?_, HC.out⟩
        · rw [HF.out.1, HJL.out]
          exact HO.out
        · rw [HF.out.2]
          exact HPM.out
end Go.Proofs.Ytcopnddmkmgihaa.Ak
