/- alarm: New, Drop, Due. -/
import Derived.Test.YtcopnddmkmgihaaAs
namespace Go.Proofs.Ytcopnddmkmgihaa.Ak
open Go.RowKit Go.Proofs.YtcopnddmkmgihaaW.PrintWords Go.Proofs.YtcopnddmkmgihaaW.PrintLast Go.Proofs.YtcopnddmkmgihaaW.PrintMore Go.Proofs.YtcopnddmkmgihaaEv
set_option linter.unusedVariables false
set_option linter.unusedSimpArgs false
set_option maxRecDepth 100000 in
theorem New_calls (w : World) : Calls Try.prog 12 #[] w fun e w' => e = .returned (.pointer (some ⟨w.heap.size, 0, none⟩)) ∧ Tab w' w.heap.size (.slice none 0 0) [] ∧ Below w.heap.size w w' ∧ w'.heap.size = w.heap.size + 1 := by
  go_enter Try.func12, Try.ntmps12
  go_wp2
  go_ret
  exact ⟨rfl, ⟨blk_new w _, Rw.nil _ _⟩, below_alloc (Below.refl _ _) _, by simp⟩
/-- What Drop answers. -/
def dropE (l : List (Int × Int)) (id : Int) : Int := if l.findIdx (isId id) < l.length then 0 else 9
set_option maxRecDepth 100000 in
set_option maxHeartbeats 8000000 in
theorem Drop_calls (w : World) (t : Nat) (v : Value) (l : List (Int × Int)) (h : Tab w t v l) (id : Int) (hl : l.length ≤ 64) :
    Calls Try.prog 18 #[.pointer (some ⟨t, 0, none⟩), .int .i64 id] w fun e w' => ∃ v', e = .returned (.int .i64 (dropE l id)) ∧ Tab w' t v' (rem l id) ∧ Chg (Ft t v) w w' ∧ v'.ownBlock = v.ownBlock := by
  obtain ⟨A, c, rfl, _⟩ := h.row.slice
  have HT := Lib.hid h
  obtain ⟨i, hi⟩ : ∃ i, l.findIdx (isId id) = i := ⟨_, rfl⟩
  obtain ⟨n, hn⟩ : ∃ n, l.length = n := ⟨_, rfl⟩
  have HL := Lib.hid hn
  by_cases hf : i < n
  · have hidx : idx l id = (i : Int) := by unfold idx; rw [hi, hn, if_pos hf]
    have HI := Lib.hid hidx
    have hre : l.eraseIdx i = rem l id := by unfold rem; rw [hi]
    have HRE := Lib.hid hre
    rw [show dropE l id = 0 by unfold dropE; rw [hi, hn, if_pos hf]]
    have hb1 : ¬ ((i : Int) < 0) := by omega
    rw [hn] at HT hl ⊢
    clear hidx hre h hi hn
    go_enter Try.func18, Try.ntmps18
    go_wp2_with (first
      | (go_at_call 33; (with_reducible refine (find_calls _ t _ l HT.out (by rw [HL.out]; omega) id).mono ?_); rintro e W1 ⟨rfl, hb⟩; rw [HI.out]; have T1 := Lib.hid (HT.out.below hb); have hc1 := T1.out.cell)
      | (go_at_call 34; (with_reducible refine (del_calls _ t A n c l i T1.out HL.out hf).mono ?_); rintro e W2 ⟨A1, c1, rfl, hc2, hf2, HP2⟩))
    go_ret
    exact ⟨_, rfl, HRE.out ▸ HP2.out.1, (Chg.of_below hb).trans HP2.out.2.1 (fun i _ q => q), HP2.out.2.2⟩
  · have hidx : idx l id = -1 := by unfold idx; rw [hi, hn, if_neg hf]
    have HI := Lib.hid hidx
    rw [show dropE l id = 9 by unfold dropE; rw [hi, hn, if_neg hf], rem_none (by rw [hi, hn]; exact hf)]
    rw [hn] at HT hl ⊢
    clear hidx h hi hn
    go_enter Try.func18, Try.ntmps18
    go_wp2_with (go_at_call 33; (with_reducible refine (find_calls _ t _ l HT.out (by rw [HL.out]; omega) id).mono ?_); rintro e W1 ⟨rfl, hb⟩; rw [HI.out])
    go_ret
    exact ⟨_, rfl, HT.out.below hb, Chg.of_below hb, rfl⟩
set_option maxRecDepth 100000 in
theorem Drop_nil (w : World) (id : Int) : Calls Try.prog 18 #[.pointer none, .int .i64 id] w fun e w' => e = .returned (.int .i64 2) ∧ Below w.heap.size w w' := by
  go_enter Try.func18, Try.ntmps18
  go_wp2_with (go_at_call 33; (with_reducible refine (find_nil _ id).mono ?_); rintro e w1 ⟨rfl, hb⟩)
  go_ret
  exact ⟨rfl, hb⟩
/-- A timer goes off. -/
def due (now : Int) (x : Int × Int) : Bool := decide (x.2 ≤ now)
theorem del0_calls (w : World) (t : Nat) (A : Option Addr) (n c : Nat) (l : List (Int × Int)) (h : Tab w t (.slice A n c) l) (hn : l.length = n) (hi : 0 < n) :
    Calls Try.prog 34 #[.slice A n c, .int .i64 0, .int .i64 1] w fun e w' => ∃ A1 c1, e = .returned (.slice A1 (n - 1) c1) ∧ w'.cell? ⟨t, 0, none⟩ = some (.slice A n c) ∧ w'.frozen? ⟨t, 0, none⟩ = false ∧
      Hid (Tab (w'.setCell ⟨t, 0, none⟩ (.slice A1 (n - 1) c1)) t (.slice A1 (n - 1) c1) (l.drop 1) ∧ Chg (Ft t (.slice A n c)) w (w'.setCell ⟨t, 0, none⟩ (.slice A1 (n - 1) c1)) ∧ (Value.slice A1 (n - 1) c1).ownBlock = (Value.slice A n c).ownBlock) := by
  have := del_calls w t A n c l 0 h hn hi
  rw [show l.eraseIdx 0 = l.drop 1 by cases l <;> rfl] at this
  exact this
theorem info3 : (Try.prog.info? 3).map (fun i => (i.zero, i.size, i.bytes)) = some (some (.int .i64 0), 1, 8) := by kernel_rfl
/-- A row of new blocks stays while older ones turn. -/
theorem ownsRow_chg {w w' : World} {base : Nat} {e : TypeId} {size : Nat} {v : Value} {n : Nat} {xs : List Value} {S : Nat → Prop} (h : w.ownsRow base e size v n xs) (g : Chg S w w') (hS : ∀ k, S k → k < base) : w'.ownsRow base e size v n xs := by
  refine ⟨h.1, ?_⟩
  rcases h.2 with hn | ⟨b, cap, cur, e1, hb, hbb, rest⟩
  · exact .inl hn
  · exact .inr ⟨b, cap, cur, e1, hb, (g.block b (blk_lt hbb) (fun q => by have := hS b q; omega)).trans hbb, rest⟩
theorem while_at {l : List (Int × Int)} {p : Int × Int → Bool} {k : Nat} (h1 : ∀ x ∈ l.take k, p x = true) (h2 : ∀ x r, l.drop k = x :: r → p x = false) : l.takeWhile p = l.take k ∧ l.dropWhile p = l.drop k := by
  have e : (l.drop k).takeWhile p = [] ∧ (l.drop k).dropWhile p = l.drop k := by
    cases hd : l.drop k with
    | nil => exact ⟨rfl, rfl⟩
    | cons x r => simp [List.takeWhile_cons, List.dropWhile_cons, h2 x r hd]
  have a := List.takeWhile_append_of_pos (l₂ := l.drop k) h1
  have b := List.dropWhile_append_of_pos (l₂ := l.drop k) h1
  rw [List.take_append_drop] at a b
  rw [a, b, e.1, e.2, List.append_nil]
  exact ⟨rfl, rfl⟩
set_option maxRecDepth 100000 in
set_option maxHeartbeats 8000000 in
theorem Due_calls (w : World) (t : Nat) (v : Value) (l : List (Int × Int)) (h : Tab w t v l) (now : Int) (hl : l.length ≤ 64) :
    Calls Try.prog 14 #[.pointer (some ⟨t, 0, none⟩), .int .i64 now] w fun e w' => ∃ v' u, e = .returned u ∧ w'.ownsRow w.heap.size 3 1 u (l.takeWhile (due now)).length ((l.takeWhile (due now)).map (fun x => .int .i64 x.1)) ∧ Tab w' t v' (l.dropWhile (due now)) ∧ Chg (Ft t v) w w' ∧ v'.ownBlock = v.ownBlock := by
  obtain ⟨i0, hi0, hz0, hz1, hz2⟩ := info_parts info3
  have hft := h.ft_lt
  have hlt := h.lt
  obtain ⟨n, hn⟩ : ∃ n, l.length = n := ⟨_, rfl⟩
  have HT := Lib.hid h
  have HL := Lib.hid hn
  have HFT := Lib.hid hft
  rw [hn] at hl
  clear h hn hft
  go_enter Try.func14, Try.ntmps14
  go_wp2
  go_loopw [5] (fun u wr => ∃ (k : Nat) (A : Option Addr) (c : Nat) (ov : Value), ov = u ∧ k ≤ n ∧ Hid (∀ x ∈ l.take k, due now x = true) ∧ Hid (Tab wr t (.slice A (n - k) c) (l.drop k)) ∧ Hid ((Value.slice A (n - k) c).ownBlock = v.ownBlock) ∧ Hid (Chg (Ft t v) w wr) ∧ Hid (wr.ownsRow w.heap.size 3 1 u k ((l.take k).map (fun x => .int .i64 x.1))) ∧ wr.cell? ⟨t, 0, none⟩ = some (.slice A (n - k) c))
    (fun _ wr => match wr.cell? ⟨t, 0, none⟩ with | some (.slice _ m _) => m | _ => 0)
  case atStart =>
    obtain ⟨A, c, hv, _⟩ := HT.out.row.slice
    rw [HL.out] at hv
    subst hv
    exact ⟨0, A, c, _, rfl, Nat.zero_le _, Lib.hid (fun x hx => by simp at hx), HT, Lib.hid rfl, Lib.hid (Chg.refl _ _), Lib.hid (World.ownsRow_nil _ _ _ _), HT.out.cell⟩
  case round =>
    obtain ⟨k, A, c, u, hov, hk, HD, T, HOW, HC, HR, hct⟩ := hrel
    subst hov
    by_cases hkn : k < n
    · have hkl : k < l.length := by rw [HL.out]; exact hkn
      obtain ⟨x, hx⟩ : ∃ x, l[k] = x := ⟨_, rfl⟩
      have hdrop : l.drop k = x :: l.drop (k + 1) := by rw [← hx]; exact List.drop_eq_getElem_cons hkl
      have HDR := Lib.hid hdrop
      obtain ⟨A', c', hv, hrow⟩ := T.out.row.slice
      obtain ⟨g, cur, hA, hg, hcur⟩ := hrow (by rw [hdrop]; simp)
      injection hv with hA' hv2 hv3
      clear hv2 hv3
      obtain rfl : A = some ⟨g, 0, none⟩ := hA'.trans hA
      rw [hdrop] at hcur
      have hx0 : wr.cell? ⟨g, 0, none⟩ = some (.int .i64 x.1) := by rw [blk_cell hg]; exact hcur 0 _ rfl
      have hx1 : wr.cell? ⟨g, 1, none⟩ = some (.int .i64 x.2) := by rw [blk_cell hg]; exact hcur 1 _ rfl
      have hnk : 0 < n - k := by omega
      clear hrow hA hA' hg hcur hdrop
      obtain ⟨m, hm⟩ : ∃ m, n - k = m + 1 := ⟨n - k - 1, by omega⟩
      rw [hm] at T HOW hct
      have HM := Lib.hid hm
      have hxd := Lib.hid hx
      clear hm hnk hx
      by_cases hd : x.2 ≤ now
      · go_wp2_with (first
          | (at_builtin; refine wpList_append_own_at _ rfl _ _ 22 rfl w.heap.size 3 i0 (.int .i64 0) 1 8 Try.underlying22 hi0 hz0 hz1 hz2 rfl (by decide) u k ((l.take k).map (fun x => .int .i64 x.1)) rfl (HR.out.alloc _) ⟨wr.heap.size, 0, none⟩ 1 1 [.int .i64 x.1] rfl rfl (cell_one_new _ _ _) (by simp [Value.oneCell']) (by unfold maxLen; omega) (by omega) (by have := HC.out.size; simp; omega) ?_; intro u' w1 hown' hgrow hnil hat; have T1 := Lib.hid (T.out.keep (S := fun j => u.ownBlock = some j) ((Chg.of_below (S := fun j => u.ownBlock = some j) (below_alloc (Below.refl _ _) _)).trans (Chg.of_grown hgrow (fun k e => e)) (fun _ _ q => q)) (fun j hj e => by have h1 := (HR.out.lt j e).1; have h2 := HFT.out j (hj.imp (fun z => z) (fun z => HOW.out.symm.trans z)); omega)); have hct1 := T1.out.cell)
          | (go_at_call 34; (with_reducible refine (del0_calls _ t (some ⟨g, 0, none⟩) (m + 1) c (l.drop k) T1.out ?hdl ?hd0).mono ?_); (case hdl => rw [List.length_drop, HL.out, HM.out]); (case hd0 => omega); rintro e w2 ⟨A1, c1, rfl, hc2, hf2, HP2⟩))
        have htk : l.take (k + 1) = l.take k ++ [x] := by rw [List.take_succ_eq_append_getElem hkl, hxd.out]
        have hnm : n - (k + 1) = m := by have := HM.out; omega
        have hTn := HP2.out.1
        have hct3 : (w2.setCell ⟨t, 0, none⟩ (.slice A1 m c1)).cell? ⟨t, 0, none⟩ = some (.slice A1 m c1) := hTn.cell
        rw [List.drop_drop] at hTn
        have hcw : Chg (Ft t v) w (w2.setCell ⟨t, 0, none⟩ (.slice A1 m c1)) := by
          have h1 : Chg (Ft t v) w w1 := (HC.out.alloc _).trans (Chg.of_grown hgrow (S := fun j => u.ownBlock = some j) (fun k e => e)) (fun i hi e => by have := (HR.out.lt i e).1; omega)
          exact h1.trans HP2.out.2.1 (fun i hi q => q.imp (fun z => z) (fun z => HOW.out.symm.trans z))
        have hrow : (w2.setCell ⟨t, 0, none⟩ (.slice A1 m c1)).ownsRow w.heap.size 3 1 u' (k + 1) ((l.take (k + 1)).map (fun x => .int .i64 x.1)) := by
          rw [htk, List.map_append]
          exact ownsRow_chg (S := Ft t (.slice (some ⟨g, 0, none⟩) (m + 1) c)) (show w1.ownsRow w.heap.size 3 1 u' (k + 1) ((l.take k).map (fun x => .int .i64 x.1) ++ [.int .i64 x.1]) from hown') HP2.out.2.1 (fun j q => HFT.out j (q.imp (fun z => z) (fun z => HOW.out.symm.trans z)))
        go_roundw
        case rel => exact ⟨k + 1, A1, c1, u', rfl, by omega, Lib.hid (fun y hy => by
            rw [htk] at hy
            rcases List.mem_append.1 hy with hy | hy
            · exact HD.out y hy
            · rw [List.mem_singleton.1 hy]; exact decide_eq_true hd), Lib.hid (by rw [hnm]; exact hTn), Lib.hid (by rw [hnm]; exact HP2.out.2.2.trans HOW.out), Lib.hid hcw, Lib.hid hrow, by rw [hnm]; exact hct3⟩
        case measure => rw [hct3, hct]; exact Nat.lt_succ_self m
      · have hx2 : ¬ x.2 ≤ now := hd
        obtain ⟨e1, e2⟩ := while_at (p := due now) HD.out (fun y r h => by
          rw [HDR.out] at h
          injection h with h _
          subst h
          exact decide_eq_false hd)
        have E1 := Lib.hid e1
        have E2 := Lib.hid e2
        clear e1 e2 hd
        go_wp2
        go_ret
        refine ⟨_, u, rfl, ?_, E2.out ▸ T.out, HC.out, HOW.out⟩
        rw [E1.out, List.length_take, Nat.min_eq_left (by omega)]
        exact HR.out
    · obtain rfl : k = n := by omega
      rw [Nat.sub_self] at T HOW hct
      obtain ⟨e1, e2⟩ := while_at (p := due now) HD.out (fun y r h => by
        rw [List.drop_eq_nil_of_le (by rw [HL.out]; exact Nat.le_refl _)] at h
        cases h)
      have E1 := Lib.hid e1
      have E2 := Lib.hid e2
      clear e1 e2
      go_wp2
      go_ret
      refine ⟨_, u, rfl, ?_, E2.out ▸ T.out, HC.out, HOW.out⟩
      rw [E1.out, List.length_take, Nat.min_eq_left (by rw [HL.out]; exact Nat.le_refl _)]
      exact HR.out
end Go.Proofs.Ytcopnddmkmgihaa.Ak
