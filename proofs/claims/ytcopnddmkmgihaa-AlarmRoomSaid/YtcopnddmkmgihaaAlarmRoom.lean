/- AlarmRoom: as many timers are set as may be, one more isn't, until one goes off: the walk. -/
import Derived.Test.YtcopnddmkmgihaaAw
namespace Go.Proofs.Ytcopnddmkmgihaa.Ak
open Go.RowKit Go.Proofs.YtcopnddmkmgihaaW.PrintWords Go.Proofs.YtcopnddmkmgihaaW.PrintLast Go.Proofs.YtcopnddmkmgihaaW.PrintMore Go.Proofs.YtcopnddmkmgihaaEv
set_option linter.unusedVariables false
set_option linter.unusedSimpArgs false
/-- Timers 0, 1, .. at times one behind the other. -/
def seg (a : Int) (k : Nat) : List (Int × Int) := (List.range k).map (fun i : Nat => ((i : Int), a + (i : Int)))
theorem seg_length (a : Int) (k : Nat) : (seg a k).length = k := by simp [seg]
theorem seg_get (a : Int) (k i : Nat) (h : i < (seg a k).length) : (seg a k)[i] = ((i : Int), a + i) := by simp [seg]
theorem seg_succ (a : Int) (k : Nat) : seg a (k + 1) = seg a k ++ [((k : Int), a + k)] := by simp [seg, List.range_succ]
theorem find_none {l : List (Int × Int)} {id : Int} (h : ∀ (j : Nat) (hj : j < l.length), l[j].1 ≠ id) : ¬ l.findIdx (isId id) < l.length := by
  rw [Nat.not_lt]
  refine Nat.le_of_eq ?_
  rw [eq_comm, List.findIdx_eq_length]
  intro x hx
  obtain ⟨j, hj, rfl⟩ := List.mem_iff_getElem.1 hx
  simpa [isId] using h j hj
/-- A new number that stands behind all. -/
theorem set_last {l : List (Int × Int)} {x : Int × Int} (hl : l.length < 64) (h1 : ∀ (j : Nat) (hj : j < l.length), l[j].1 ≠ x.1) (h2 : ∀ (j : Nat) (hj : j < l.length), less l[j] x = true) : setL l x.1 x.2 = (0, l ++ [x]) := by
  have hf := find_none h1
  unfold setL
  rw [if_neg (by omega), rem_none hf]
  have hp : pos l (x.1, x.2) = l.length := pos_eq (Nat.le_refl _) (fun m hm _ => h2 m hm) (fun m hm h => by omega)
  rw [hp]
  unfold ins
  rw [List.take_length, List.drop_length]
theorem set_many {l : List (Int × Int)} {id at_ : Int} (hl : l.length = 64) (h1 : ∀ (j : Nat) (hj : j < l.length), l[j].1 ≠ id) : setL l id at_ = (7, l) := by
  unfold setL
  rw [if_pos ⟨find_none h1, hl⟩]
/-- A timer that is set to where it stands. -/
theorem set_same {l : List (Int × Int)} (hg : Good l) (i : Nat) (hi : i < l.length) (hn : ∀ j (hj : j < i), l[j].1 ≠ l[i].1) : setL l l[i].1 l[i].2 = (0, l) := by
  have hf : l.findIdx (isId l[i].1) = i := (List.findIdx_eq hi).2 ⟨by simp [isId], fun j hj => by simpa [isId] using hn j hj⟩
  unfold setL
  rw [hf, if_neg (fun q => q.1 hi)]
  have hr : rem l l[i].1 = l.take i ++ l.drop (i + 1) := by unfold rem; rw [hf, List.eraseIdx_eq_take_drop_succ]
  have htl : (l.take i).length = i := by rw [List.length_take]; omega
  have hlen : (l.take i ++ l.drop (i + 1)).length = l.length - 1 := by rw [List.length_append, htl, List.length_drop]; omega
  have hp : pos (l.take i ++ l.drop (i + 1)) (l[i].1, l[i].2) = i := by
    refine pos_eq (by omega) (fun m hm h => ?_) (fun m hm h => ?_)
    · rw [List.getElem_append_left (by omega), List.getElem_take]
      exact ord_get hg.ord hi h
    · rw [List.getElem_append_right (by omega), List.getElem_drop]
      have := ord_get hg.ord (i := i) (j := i + 1 + (m - (l.take i).length)) (by omega) (by omega)
      simp only [less, decide_eq_true_eq, decide_eq_false_iff_not] at this ⊢
      omega
  rw [hr, hp]
  unfold ins
  rw [List.take_append_of_le_length (by omega), List.take_of_length_le (by omega), List.drop_append_of_le_length (by omega), List.drop_eq_nil_of_le (by omega), List.nil_append]
  rw [show ((l[i].1, l[i].2) : Int × Int) = l[i] from rfl, ← List.drop_eq_getElem_cons hi, List.take_append_drop]
theorem set_seg (a : Int) (k : Nat) (hk : k < 64) : setL (seg a k) k (a + k) = (0, seg a (k + 1)) := by
  rw [seg_succ]
  refine set_last (x := ((k : Int), a + k)) (by rw [seg_length]; exact hk) (fun j hj => ?_) (fun j hj => ?_)
  · rw [seg_get]; rw [seg_length] at hj; dsimp only; omega
  · rw [seg_get]; rw [seg_length] at hj; simp [less]; omega
theorem seg_tail (a : Int) (j : Nat) (h : j < ((seg a 64).drop 1).length) : ((seg a 64).drop 1)[j] = (((1 + j : Nat) : Int), a + ((1 + j : Nat) : Int)) := by
  rw [List.getElem_drop, seg_get]
theorem seg_due (a : Int) : (seg a 64).takeWhile (due a) = [(0, a)] ∧ (seg a 64).dropWhile (due a) = (seg a 64).drop 1 := by
  have h1 : (seg a 64).take 1 = [((0 : Int), a)] := by
    have : (seg a 64) = (0, a + 0) :: (seg a 64).tail := rfl
    rw [this, Int.add_zero]
    rfl
  have := while_at (l := seg a 64) (p := due a) (k := 1) (fun x hx => by rw [h1] at hx; rw [List.mem_singleton.1 hx]; simp [due]) (fun x r h => by
    have h2 := seg_tail a 0 (by rw [List.length_drop, seg_length]; decide)
    simp only [h, List.getElem_cons_zero] at h2
    rw [h2]
    simp [due]
    omega)
  rw [h1] at this
  exact this
theorem extra_set (a e : Int) (he : e < 0 ∨ 64 ≤ e) : setL ((seg a 64).drop 1) e (a + 500) = (0, (seg a 64).drop 1 ++ [(e, a + 500)]) := by
  have hl : ((seg a 64).drop 1).length = 63 := by rw [List.length_drop, seg_length]
  refine set_last (x := (e, a + 500)) (by omega) (fun j hj => ?_) (fun j hj => ?_)
  · rw [seg_tail a j hj]; rw [hl] at hj; dsimp only; omega
  · rw [seg_tail a j hj]; rw [hl] at hj; simp [less]; omega
theorem extra_due (a e : Int) : ((seg a 64).drop 1 ++ [(e, a + 500)]).takeWhile (due (a + 499)) = (seg a 64).drop 1 ∧ ((seg a 64).drop 1 ++ [(e, a + 500)]).dropWhile (due (a + 499)) = [(e, a + 500)] := by
  have hl : ((seg a 64).drop 1).length = 63 := by rw [List.length_drop, seg_length]
  have ht : ((seg a 64).drop 1 ++ [(e, a + 500)]).take 63 = (seg a 64).drop 1 := by rw [← hl, List.take_left]
  have hd : ((seg a 64).drop 1 ++ [(e, a + 500)]).drop 63 = [(e, a + 500)] := by rw [← hl, List.drop_left]
  have := while_at (l := (seg a 64).drop 1 ++ [(e, a + 500)]) (p := due (a + 499)) (k := 63) (fun x hx => by
    rw [ht] at hx
    obtain ⟨j, hj, rfl⟩ := List.mem_iff_getElem.1 hx
    rw [seg_tail a j hj]
    rw [hl] at hj
    simp [due]
    omega) (fun x r h => by
    rw [hd] at h
    injection h with h _
    rw [← h]
    simp [due])
  rw [ht, hd] at this
  exact this
theorem set_three (a : Int) (hg : Good (seg a 64)) : setL (seg a 64) 3 (a + 3) = (0, seg a 64) := by
  have h3 : 3 < (seg a 64).length := by rw [seg_length]; decide
  have := set_same hg 3 h3 (fun j hj => by rw [seg_get, seg_get]; dsimp only; omega)
  rw [seg_get] at this
  exact this
theorem extra_many (a e x : Int) (he : e < 0 ∨ 64 ≤ e) : setL (seg a 64) e x = (7, seg a 64) :=
  set_many (seg_length a 64) (fun j hj => by rw [seg_get]; rw [seg_length] at hj; dsimp only; omega)
set_option maxRecDepth 100000 in
set_option maxHeartbeats 8000000 in
theorem clepsydralaw09_AlarmRoom.calls (a x : Int) (w : World) : Calls Try.prog 5 #[.int .i64 a, .int .i64 x] w fun e w' => e = .returned (.bool true) ∧ Below w.heap.size w w' := by
  by_cases hg : a > 4611686018427387904 ∨ a < -4611686018427387904 ∨ (x ≥ 0 ∧ x < 64)
  · rcases hg with hg | hg | hg
    · go_enter Try.func5, Try.ntmps5
      go_wp2_with (go_at_call 11; (with_reducible refine (alive_calls _).mono ?_); rintro e wa ⟨rfl, HB⟩)
      go_ret
      exact ⟨rfl, HB⟩
    · have hg2 : ¬ a > 4611686018427387904 := by omega
      go_enter Try.func5, Try.ntmps5
      go_wp2_with (go_at_call 11; (with_reducible refine (alive_calls _).mono ?_); rintro e wa ⟨rfl, HB⟩)
      go_ret
      exact ⟨rfl, HB⟩
    · obtain ⟨hg0, hg1⟩ := hg
      by_cases hb1 : a > 4611686018427387904
      · go_enter Try.func5, Try.ntmps5
        go_wp2_with (go_at_call 11; (with_reducible refine (alive_calls _).mono ?_); rintro e wa ⟨rfl, HB⟩)
        go_ret
        exact ⟨rfl, HB⟩
      · by_cases hb2 : a < -4611686018427387904
        · go_enter Try.func5, Try.ntmps5
          go_wp2_with (go_at_call 11; (with_reducible refine (alive_calls _).mono ?_); rintro e wa ⟨rfl, HB⟩)
          go_ret
          exact ⟨rfl, HB⟩
        · go_enter Try.func5, Try.ntmps5
          go_wp2_with (go_at_call 11; (with_reducible refine (alive_calls _).mono ?_); rintro e wa ⟨rfl, HB⟩)
          go_ret
          exact ⟨rfl, HB⟩
  · have a1 : ¬ a > 4611686018427387904 := by omega
    have a2 : ¬ a < -4611686018427387904 := by omega
    have hx : x < 0 ∨ 64 ≤ x := by omega
    have HX := Lib.hid hx
    rcases hx with hx | hx
    · have hx0 : ¬ x ≥ 0 := by omega
      clear hg
      go_enter Try.func5, Try.ntmps5
      go_wp2_with (first
        | (go_at_call 11; (with_reducible refine (alive_calls _).mono ?_); rintro e wa ⟨rfl, HB⟩)
        | (go_at_call 12; (with_reducible refine (new_to w _ HB).mono ?_); rintro e w1 ⟨t, rfl, S0, B0⟩))
      go_loopw [6] (fun v6 wr => ∃ k : Nat, k ≤ 64 ∧ v6 = .int .i64 k ∧ Hid (St w wr t (seg a k))) (fun v6 _ => 64 - (intOf v6).toNat)
      case atStart => exact ⟨0, by omega, rfl, show Hid (St w _ t (seg a 0)) from S0⟩
      case round =>
        obtain ⟨k, hk, rfl, S⟩ := hrel
        by_cases hlt : k < 64
        · have hk1 : (k : Int) < 64 := by omega
          have hr1 : -9223372036854775808 ≤ a + (k : Int) := by omega
          have hr2 : a + (k : Int) ≤ 9223372036854775807 := by omega
          have HS := Lib.hid (set_seg a k hlt)
          go_wp2_with (go_at_call 13; (with_reducible refine (set_to S.out k (a + k) 0 (seg a (k + 1)) HS.out).mono ?_); rintro e w2 ⟨rfl, S1, O1⟩)
          go_roundw
          case rel => exact ⟨k + 1, by omega, by simp, S1⟩
          case measure => simp [intOf]; omega
        · obtain rfl : k = 64 := by omega
          have hr3 : -9223372036854775808 ≤ a + 3 := by omega
          have hr4 : a + 500 ≤ 9223372036854775807 := by omega
          have HL : Hid ((((seg a 64).drop 1 ++ [(x, a + 500)]).length : Int) = 64) := Lib.hid (by rw [List.length_append, List.length_drop, seg_length]; rfl)
          have HL2 : Hid (((seg a 64).drop 1).length = 63) := Lib.hid (by rw [List.length_drop, seg_length])
          go_wp2_with (first
            | (go_at_call 13; (with_reducible refine (set_to S.out x a 7 (seg a 64) (extra_many a x a HX.out)).mono ?_); rintro e w2 ⟨rfl, Sa, O1⟩)
            | (go_at_call 13; (with_reducible refine (set_to Sa.out 3 (a + 3) 0 (seg a 64) (set_three a S.out.good)).mono ?_); rintro e w3 ⟨rfl, Sb, O2⟩)
            | (go_at_call 14; (with_reducible refine (due_to Sb.out a [(0, a)] ((seg a 64).drop 1) 1 rfl (seg_due a).1 (seg_due a).2).mono ?_); rintro e w4 ⟨A, c, rfl, HC, Sc, O3⟩)
            | (go_at_call 13; (with_reducible refine (set_to Sc.out x (a + 500) 0 ((seg a 64).drop 1 ++ [(x, a + 500)]) (extra_set a x HX.out)).mono ?_); rintro e w5 ⟨rfl, Sd, O4⟩)
            | (go_at_call 15; (with_reducible refine (len_to Sd.out 64 HL.out).mono ?_); rintro e w6 ⟨rfl, rfl⟩)
            | (go_at_call 14; (with_reducible refine (due_to Sd.out (a + 499) ((seg a 64).drop 1) [(x, a + 500)] 63 HL2.out (extra_due a x).1 (extra_due a x).2).mono ?_); rintro e w7 ⟨A2, c2, rfl, HC2, Se, O5⟩))
          go_ret
          exact ⟨rfl, Se.out.below⟩
    · have hx0 : x ≥ 0 := by omega
      have hx1 : ¬ x < 64 := by omega
      clear hg
      go_enter Try.func5, Try.ntmps5
      go_wp2_with (first
        | (go_at_call 11; (with_reducible refine (alive_calls _).mono ?_); rintro e wa ⟨rfl, HB⟩)
        | (go_at_call 12; (with_reducible refine (new_to w _ HB).mono ?_); rintro e w1 ⟨t, rfl, S0, B0⟩))
      go_loopw [6] (fun v6 wr => ∃ k : Nat, k ≤ 64 ∧ v6 = .int .i64 k ∧ Hid (St w wr t (seg a k))) (fun v6 _ => 64 - (intOf v6).toNat)
      case atStart => exact ⟨0, by omega, rfl, show Hid (St w _ t (seg a 0)) from S0⟩
      case round =>
        obtain ⟨k, hk, rfl, S⟩ := hrel
        by_cases hlt : k < 64
        · have hk1 : (k : Int) < 64 := by omega
          have hr1 : -9223372036854775808 ≤ a + (k : Int) := by omega
          have hr2 : a + (k : Int) ≤ 9223372036854775807 := by omega
          have HS := Lib.hid (set_seg a k hlt)
          go_wp2_with (go_at_call 13; (with_reducible refine (set_to S.out k (a + k) 0 (seg a (k + 1)) HS.out).mono ?_); rintro e w2 ⟨rfl, S1, O1⟩)
          go_roundw
          case rel => exact ⟨k + 1, by omega, by simp, S1⟩
          case measure => simp [intOf]; omega
        · obtain rfl : k = 64 := by omega
          have hr3 : -9223372036854775808 ≤ a + 3 := by omega
          have hr4 : a + 500 ≤ 9223372036854775807 := by omega
          have HL : Hid ((((seg a 64).drop 1 ++ [(x, a + 500)]).length : Int) = 64) := Lib.hid (by rw [List.length_append, List.length_drop, seg_length]; rfl)
          have HL2 : Hid (((seg a 64).drop 1).length = 63) := Lib.hid (by rw [List.length_drop, seg_length])
          go_wp2_with (first
            | (go_at_call 13; (with_reducible refine (set_to S.out x a 7 (seg a 64) (extra_many a x a HX.out)).mono ?_); rintro e w2 ⟨rfl, Sa, O1⟩)
            | (go_at_call 13; (with_reducible refine (set_to Sa.out 3 (a + 3) 0 (seg a 64) (set_three a S.out.good)).mono ?_); rintro e w3 ⟨rfl, Sb, O2⟩)
            | (go_at_call 14; (with_reducible refine (due_to Sb.out a [(0, a)] ((seg a 64).drop 1) 1 rfl (seg_due a).1 (seg_due a).2).mono ?_); rintro e w4 ⟨A, c, rfl, HC, Sc, O3⟩)
            | (go_at_call 13; (with_reducible refine (set_to Sc.out x (a + 500) 0 ((seg a 64).drop 1 ++ [(x, a + 500)]) (extra_set a x HX.out)).mono ?_); rintro e w5 ⟨rfl, Sd, O4⟩)
            | (go_at_call 15; (with_reducible refine (len_to Sd.out 64 HL.out).mono ?_); rintro e w6 ⟨rfl, rfl⟩)
            | (go_at_call 14; (with_reducible refine (due_to Sd.out (a + 499) ((seg a 64).drop 1) [(x, a + 500)] 63 HL2.out (extra_due a x).1 (extra_due a x).2).mono ?_); rintro e w7 ⟨A2, c2, rfl, HC2, Se, O5⟩))
          go_ret
          exact ⟨rfl, Se.out.below⟩
end Go.Proofs.Ytcopnddmkmgihaa.Ak
