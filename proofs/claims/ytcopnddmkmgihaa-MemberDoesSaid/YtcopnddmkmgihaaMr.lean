/- member: the document's own table (clepsydraref14): Count, Numbers, Hear, more: the walks. -/
import Derived.Test.YtcopnddmkmgihaaMd
namespace Go.Proofs.Ytcopnddmkmgihaa.Mb
open Go.RowKit Go.Maps Go.Sort Go.Shelf Go.ChangeMaps Go.MapKept Go.Proofs.YtcopnddmkmgihaaW.PrintWords Go.Proofs.YtcopnddmkmgihaaW.PrintLast Go.Proofs.YtcopnddmkmgihaaW.PrintMore Go.Proofs.YtcopnddmkmgihaaEv Go.Proofs.YtcopnddmkmgihaaRx
set_option linter.unusedVariables false
set_option linter.unusedSimpArgs false
/-- The first n. -/
def numsT (f : FT) (n : Nat) : List Int := ((List.range n).filter (fun k => (f k).isSome)).map (fun k : Nat => (k : Int))
theorem numsT_48 (f : FT) : numsT f 48 = nums f := rfl
theorem numsT_some {f : FT} {n : Nat} {v : Int × Int} (h : f n = some v) : numsT f (n + 1) = numsT f n ++ [(n : Int)] := by
  unfold numsT
  rw [List.range_succ, List.filter_append, List.map_append, List.filter_cons, h]
  rfl
theorem numsT_none {f : FT} {n : Nat} (h : f n = none) : numsT f (n + 1) = numsT f n := by
  unfold numsT
  rw [List.range_succ, List.filter_append, List.map_append, List.filter_cons, h]
  simp
theorem numsT_le (f : FT) (n : Nat) : (numsT f n).length ≤ n := by
  unfold numsT
  rw [List.length_map]
  exact Nat.le_trans (List.length_filter_le _ _) (by simp)
set_option maxRecDepth 100000 in
set_option maxHeartbeats 4000000 in
theorem more_calls (n : Int) (hn : 0 ≤ n ∧ n ≤ 1073741824) (w : World) : Calls Try.prog 43 #[.int .i64 n] w fun e w' => e = .returned (.int .i64 (min (n + 1) 1073741824)) ∧ w' = w := by
  by_cases h : n < 1073741824
  · have h1 : -9223372036854775808 ≤ n + 1 := by omega
    have h2 : n + 1 ≤ 9223372036854775807 := by omega
    go_enter Try.func43, Try.ntmps43
    go_wp2_with fail
    go_ret
    rw [show min (n + 1) 1073741824 = n + 1 by omega]
    exact ⟨rfl, rfl⟩
  · have h1 : n = 1073741824 := by omega
    subst h1
    go_enter Try.func43, Try.ntmps43
    go_wp2_with fail
    go_ret
    exact ⟨rfl, rfl⟩
set_option maxRecDepth 100000 in
set_option maxHeartbeats 4000000 in
theorem Count_calls (w : World) (r : Nat) (f : FT) (h : RTb w r f) (n : Nat) (hn : (nums f).length = n) :
    Calls Try.prog 41 #[.pointer (some ⟨r, 0, none⟩)] w fun e w' => e = .returned (.int .i64 n) ∧ Hid (Below w.heap.size w w') := by
  have HR := Lib.hid h
  have HN := Lib.hid hn
  clear h hn
  go_enter Try.func41, Try.ntmps41
  go_wp2_with ((with_reducible refine gate_dst (N := 9) rfl ?_); refine wl_arr_load rfl rfl (by rfl) HR.out ?_)
  go_loopw [3, 10] (fun v3 v10 wr => ∃ k : Nat, k ≤ 48 ∧ v10 = .int .i64 k ∧ v3 = .int .i64 (numsT f k).length ∧ Hid (Below w.heap.size w wr)) (fun _ v10 _ => 48 - (intOf v10).toNat)
  case atStart => exact ⟨0, by omega, rfl, rfl, Lib.hid (Below.refl _ _)⟩
  case round =>
    obtain ⟨k, hk, rfl, rfl, HB⟩ := hrel
    by_cases hlt : k < 48
    · have hk1 : (k : Int) < 48 := by omega
      have HK := Lib.hid hlt
      cases hf : f k with
      | none =>
        have HF := Lib.hid hf
        clear hf
        go_wp2_with (first
          | ((with_reducible refine gate_dst (N := 12) rfl ?_); refine wl_arr_index (k := k) (f := f) rfl rfl (by rfl) (by rfl) (by omega) ?_; rw [HF.out]; simp only [en])
          | fail)
        exact ⟨⟨k + 1, by omega, by simp, by rw [numsT_none HF.out], Lib.hid (below_alloc HB.out _)⟩, by simp [intOf]; omega⟩
      | some v =>
        have HF := Lib.hid hf
        have HL := numsT_le f k
        have hq1 : -9223372036854775808 ≤ ((numsT f k).length : Int) + 1 := by omega
        have hq2 : ((numsT f k).length : Int) + 1 ≤ 9223372036854775807 := by omega
        clear hf HL
        go_wp2_with (first
          | ((with_reducible refine gate_dst (N := 12) rfl ?_); refine wl_arr_index (k := k) (f := f) rfl rfl (by rfl) (by rfl) (by omega) ?_; rw [HF.out]; simp only [en])
          | fail)
        exact ⟨⟨k + 1, by omega, by simp, by rw [numsT_some HF.out]; simp, Lib.hid (below_alloc HB.out _)⟩, by simp [intOf]; omega⟩
    · obtain rfl : k = 48 := by omega
      go_wp2_with fail
      go_ret
      rw [numsT_48, HN.out]
      exact ⟨rfl, HB⟩
set_option maxRecDepth 100000 in
set_option maxHeartbeats 4000000 in
theorem Numbers_calls (w : World) (r : Nat) (f : FT) (h : RTb w r f) (l : List Int) (hl : nums f = l) (m : Nat) (hm : l.length = m) :
    Calls Try.prog 31 #[.pointer (some ⟨r, 0, none⟩)] w fun e w' => ∃ A c, e = .returned (.slice A m c) ∧ Hid (w'.ownsRow w.heap.size 3 1 (.slice A m c) m (l.map (Value.int .i64))) ∧ Hid (Below w.heap.size w w') := by
  have HR := Lib.hid h
  have HN := Lib.hid hl
  have HM := Lib.hid hm
  clear h hl hm
  go_enter Try.func31, Try.ntmps31
  go_wp2_with ((with_reducible refine gate_dst (N := 9) rfl ?_); refine wl_arr_load rfl rfl (by rfl) HR.out ?_)
  go_loopw [3, 10] (fun v3 v10 wr => ∃ (k : Nat) (u : Value), k ≤ 48 ∧ v10 = .int .i64 k ∧ u = v3 ∧ Hid (wr.ownsRow w.heap.size 3 1 u (numsT f k).length ((numsT f k).map (Value.int .i64))) ∧ Hid (Below w.heap.size w wr)) (fun _ v10 _ => 48 - (intOf v10).toNat)
  case atStart => exact ⟨0, _, by omega, rfl, rfl, Lib.hid (World.ownsRow_nil _ _ _ _), Lib.hid (Below.refl _ _)⟩
  case round =>
    obtain ⟨k, u, hk, rfl, hu, HO, HB⟩ := hrel
    subst hu
    by_cases hlt : k < 48
    · have hk1 : (k : Int) < 48 := by omega
      have HK := Lib.hid hlt
      cases hf : f k with
      | none =>
        have HF := Lib.hid hf
        clear hf
        go_wp2_with (first
          | ((with_reducible refine gate_dst (N := 13) rfl ?_); refine wl_arr_index (k := k) (f := f) rfl rfl (by rfl) (by rfl) (by omega) ?_; rw [HF.out]; simp only [en])
          | fail)
        exact ⟨⟨k + 1, _, by omega, by simp, rfl, by rw [numsT_none HF.out]; exact Lib.hid (pw_own_below HO.out (below_alloc (Below.refl _ _) _)), Lib.hid (below_alloc HB.out _)⟩, by simp [intOf]; omega⟩
      | some v =>
        have HF := Lib.hid hf
        have HB1 : Hid (Below w.heap.size w (wr.alloc (.cells #[.bool true, .int .i64 v.1, .int .i64 v.2] 50 (0, 0)))) := Lib.hid (below_alloc HB.out _)
        have HO1 : Hid ((wr.alloc (.cells #[.bool true, .int .i64 v.1, .int .i64 v.2] 50 (0, 0))).ownsRow w.heap.size 3 1 u (numsT f k).length ((numsT f k).map (Value.int .i64))) := Lib.hid (pw_own_below HO.out (below_alloc (Below.refl _ _) _))
        have HL : Hid ((numsT f k).length ≤ 48) := Lib.hid (by have := numsT_le f k; omega)
        have HQ : Hid (wr.heap.size < (wr.alloc (.cells #[.bool true, .int .i64 v.1, .int .i64 v.2] 50 (0, 0))).heap.size ∧ (wr.alloc (.cells #[.bool true, .int .i64 v.1, .int .i64 v.2] 50 (0, 0))).heap.size = wr.heap.size + 1) := Lib.hid (by simp)
        clear hf
        go_wp2_with (first
          | ((with_reducible refine gate_dst (N := 13) rfl ?_); refine wl_arr_index (k := k) (f := f) rfl rfl (by rfl) (by rfl) (by omega) ?_; rw [HF.out]; simp only [en])
          | (at_builtin; (refine print_append_cells (w0 := w) w.heap.size rfl _ _ 22 3 (.int .i64 0) 1 8 rfl Try.underlying22 info3 rfl (by decide) (by decide) u (numsT f k).length ((numsT f k).map (Value.int .i64)) [.int .i64 k] rfl (by rw [HQ.out.2]; rfl) rfl (by simp [Value.oneCell']) HO1.out HB1.out HB1.out.size (by have := HL.out; omega) ?_); intro u4 w4 ho4 hb4 hg4 _; have HO4 := Lib.hid ho4; have HB4 := Lib.hid hb4; clear ho4 hb4 hg4))
        exact ⟨⟨k + 1, _, by omega, by simp, rfl, by rw [numsT_some HF.out, List.length_append, List.map_append]; exact HO4, HB4⟩, by simp [intOf]; omega⟩
    · obtain rfl : k = 48 := by omega
      have hl2 : (numsT f 48).length = m := by rw [numsT_48, HN.out, HM.out]
      have hl3 : numsT f 48 = l := HN.out
      rw [hl2, hl3] at HO
      obtain ⟨A, c, rfl⟩ := own_shape HO.out
      clear hl2 hl3
      go_wp2_with fail
      go_ret
      exact ⟨A, c, rfl, HO, HB⟩
theorem own_shape3 {w : World} {base n : Nat} {e : TypeId} {size : Nat} {v : Value} {xs : List Value} (h : w.ownsRow base e size v n xs) : ∃ A c, v = .slice A n c := own_shape h
theorem set_grown (w : World) (r i : Nat) (v : Value) : w.grownBy (w.setCell ⟨r, i, none⟩ v) (some r) := ⟨rfl, rfl, rfl, (KeepsWalks.setCell w _ _).size, fun k _ hk => Below.heap_setCell _ _ _ k (fun e => hk (by rw [e]))⟩
set_option maxRecDepth 100000 in
set_option maxHeartbeats 4000000 in
theorem RHear_calls (w : World) (r : Nat) (f : FT) (h : RTb w r f) (who rr : Int) (f' : FT) (hr : hearF f who = (rr, f')) :
    Calls Try.prog 26 #[.pointer (some ⟨r, 0, none⟩), .int .i64 who] w fun e w' => e = .returned (.int .i64 rr) ∧ Hid (RTb w' r f') ∧ Hid (w.grownBy w' (some r)) := by
  have HR := Lib.hid h
  by_cases h0 : who < 0
  · have e : (1, f) = (rr, f') := by rw [← hr]; unfold hearF; rw [if_neg (by omega)]
    cases e
    clear h hr
    go_enter Try.func26, Try.ntmps26
    go_wp2_with fail
    go_ret
    exact ⟨rfl, HR, Lib.hid (World.grownBy.refl _ _)⟩
  by_cases h1 : who > 47
  · have e : (1, f) = (rr, f') := by rw [← hr]; unfold hearF; rw [if_neg (by omega)]
    cases e
    clear h hr
    go_enter Try.func26, Try.ntmps26
    go_wp2_with fail
    go_ret
    exact ⟨rfl, HR, Lib.hid (World.grownBy.refl _ _)⟩
  obtain ⟨k, hk⟩ : ∃ k : Nat, who = k := ⟨who.toNat, by omega⟩
  subst hk
  have hk48 : k < 48 := by omega
  have HK := Lib.hid hk48
  have c0 := h.cell k 0 hk48 (by omega)
  rw [Nat.add_zero] at c0
  have c1 := h.cell k 1 hk48 (by omega)
  have c2 := h.cell k 2 hk48 (by omega)
  have z0 : w.frozen? ⟨r, k * 3, none⟩ = false := blk_frozen h _
  have z1 : w.frozen? ⟨r, k * 3 + 1, none⟩ = false := blk_frozen h _
  have z2 : w.frozen? ⟨r, k * 3 + 2, none⟩ = false := blk_frozen h _
  have d0 : decide ((k : Int) < 0) = false := decide_eq_false (by omega)
  have d1 : decide (47 < (k : Int)) = false := decide_eq_false (by omega)
  have d2 : (0 : Int) ≤ k := by omega
  have d3 : (k : Int) < 48 := by omega
  have HE : Hid (hearF f k = (match f k with
    | some v => (0, upd f k (some (v.1, 0)))
    | none => if (nums f).length = 16 then (7, f) else (0, upd f k (some (0, 0))))) := Lib.hid (by unfold hearF; rw [if_pos (by omega), Int.toNat_natCast]; cases f k <;> rfl)
  rw [HE.out] at hr
  clear h0 h1 h hk48 HE
  cases hf : f k with
  | some v =>
    obtain ⟨a, q⟩ := v
    rw [hf] at hr c0 c1 c2
    cases hr
    have HF := Lib.hid hf
    simp only [en] at c0 c1 c2
    clear hf
    go_enter Try.func26, Try.ntmps26
    go_wp2_with fail
    go_ret
    exact ⟨rfl, Lib.hid (HR.out.set2 HK.out HF.out 0), Lib.hid (set_grown _ _ _ _)⟩
  | none =>
    rw [hf] at hr c0 c1 c2
    have HF := Lib.hid hf
    simp only [en] at c0 c1 c2
    clear hf
    dsimp only at hr
    by_cases h16 : (nums f).length = 16
    · rw [if_pos h16] at hr
      cases hr
      have H16 := Lib.hid h16
      clear h16
      go_enter Try.func26, Try.ntmps26
      go_wp2_with fail
      refine (Count_calls w r f HR.out 16 H16.out).mono ?_
      rintro e w2 ⟨rfl, HB⟩
      go_wp2_with fail
      go_ret
      exact ⟨rfl, Lib.hid (HR.out.below HB.out), Lib.hid (grown_of_below HB.out _)⟩
    · rw [if_neg h16] at hr
      cases hr
      obtain ⟨n, hn⟩ : ∃ n, (nums f).length = n := ⟨_, rfl⟩
      have HN := Lib.hid hn
      rw [hn] at h16
      have d4 : ((n : Int) == 16) = false := beq_eq_false_iff_ne.mpr (by omega)
      clear h16 hn
      go_enter Try.func26, Try.ntmps26
      go_wp2_with fail
      refine (Count_calls w r f HR.out n HN.out).mono ?_
      rintro e w2 ⟨rfl, HB⟩
      have HR2 := Lib.hid (HR.out.below HB.out)
      clear c0 c1 c2 z0 z1 z2
      have c0 := HR2.out.cell k 0 HK.out (by omega)
      have c1 := HR2.out.cell k 1 HK.out (by omega)
      have c2 := HR2.out.cell k 2 HK.out (by omega)
      have z0 : w2.frozen? ⟨r, k * 3, none⟩ = false := blk_frozen HR2.out _
      have z1 : w2.frozen? ⟨r, k * 3 + 1, none⟩ = false := blk_frozen HR2.out _
      have z2 : w2.frozen? ⟨r, k * 3 + 2, none⟩ = false := blk_frozen HR2.out _
      rw [HF.out] at c0 c1 c2
      simp only [en, Nat.add_zero] at c0 c1 c2
      go_wp2_with fail
      go_ret
      have h3 := HR2.out.set3 HK.out (some (0, 0))
      have h4 := h3.set2 (a := 0) (q := 0) HK.out (by unfold upd; rw [if_pos rfl]) 0
      refine ⟨rfl, Lib.hid ?_, Lib.hid ((((((grown_of_below HB.out (some r)).trans (set_grown _ r _ _)).trans (set_grown _ r _ _)).trans (set_grown _ r _ _)).trans (set_grown _ r _ _)))⟩
      have e : upd (upd f k (some (0, 0))) k (some (0, 0)) = upd f k (some (0, 0)) := by
        funext j
        unfold upd
        by_cases q : j = k
        · rw [if_pos q, if_pos q]
        · rw [if_neg q, if_neg q]
      rw [e] at h4
      exact h4
end Go.Proofs.Ytcopnddmkmgihaa.Mb
