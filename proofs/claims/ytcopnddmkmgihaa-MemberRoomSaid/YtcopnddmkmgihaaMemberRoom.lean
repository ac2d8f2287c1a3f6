/- MemberRoom: as many neighbours as may be are taken, one more isn't, until one is dropped: the walk. -/
import Derived.Test.YtcopnddmkmgihaaMl
namespace Go.Proofs.Ytcopnddmkmgihaa.Mb
open Go.RowKit Go.Maps Go.Sort Go.Shelf Go.ChangeMaps Go.MapKept Go.Proofs.YtcopnddmkmgihaaW.PrintWords Go.Proofs.YtcopnddmkmgihaaW.PrintLast Go.Proofs.YtcopnddmkmgihaaW.PrintMore Go.Proofs.YtcopnddmkmgihaaEv Go.Proofs.YtcopnddmkmgihaaRx
set_option linter.unusedVariables false
set_option linter.unusedSimpArgs false
theorem flt_one (f g : Nat → Bool) (k : Nat) (hf : f k = false) (hg : g k = true) (h : ∀ j, j ≠ k → f j = g j) : ∀ n, k < n → ((List.range n).filter g).length = ((List.range n).filter f).length + 1
  | 0, hk => by omega
  | n + 1, hk => by
    rw [List.range_succ, List.filter_append, List.filter_append, List.length_append, List.length_append]
    by_cases e : k = n
    · subst e
      rw [List.filter_congr (p := f) (q := g) (fun x hx => h x (by have := List.mem_range.1 hx; omega))]
      simp [hf, hg]
    · have ih := flt_one f g k hf hg h n (by omega)
      have e2 : [n].filter g = [n].filter f := by rw [List.filter_cons, List.filter_cons, h n (by omega)]; rfl
      rw [ih, e2]
      omega
theorem nums_some {f : FT} {k : Nat} {v : Int × Int} (hk : k < 48) (h : f k = none) : (nums (upd f k (some v))).length = (nums f).length + 1 := by
  unfold nums
  rw [List.length_map, List.length_map]
  refine flt_one _ _ k ?_ ?_ (fun j hj => ?_) 48 hk
  · rw [h]; rfl
  · unfold upd; rw [if_pos rfl]; rfl
  · unfold upd; rw [if_neg hj]
theorem nums_gone {f : FT} {k : Nat} {v : Int × Int} (hk : k < 48) (h : f k = some v) : (nums f).length = (nums (upd f k none)).length + 1 := by
  unfold nums
  rw [List.length_map, List.length_map]
  refine flt_one _ _ k ?_ ?_ (fun j hj => ?_) 48 hk
  · unfold upd; rw [if_pos rfl]; rfl
  · rw [h]; rfl
  · unfold upd; rw [if_neg hj]
/-- Neighbours from a on, k of them. -/
def segF (a : Int) (k : Nat) : FT := fun j => if a ≤ j ∧ (j : Int) < a + k then some (0, 0) else none
theorem segF_zero (a : Int) : segF a 0 = fun _ => none := by funext j; unfold segF; rw [if_neg (by omega)]
theorem segF_succ (a : Int) (k : Nat) (ha : 0 ≤ a) : segF a (k + 1) = upd (segF a k) (a + k).toNat (some (0, 0)) := by
  funext j
  unfold upd segF
  by_cases e : j = (a + k).toNat
  · rw [if_pos e, if_pos (by omega)]
  · rw [if_neg e]
    by_cases h : a ≤ j ∧ (j : Int) < a + k
    · rw [if_pos h, if_pos (by omega)]
    · rw [if_neg h, if_neg (by omega)]
theorem segF_out (a : Int) (k : Nat) {o : Int} (ho : 0 ≤ o) (h : o < a ∨ a + k ≤ o) : segF a k o.toNat = none := by unfold segF; rw [if_neg (by omega)]
theorem segF_in (a : Int) (k : Nat) {o : Int} (ho : 0 ≤ o) (h : a ≤ o ∧ o < a + k) : segF a k o.toNat = some (0, 0) := by unfold segF; rw [if_pos (by omega)]
theorem segF_nums (a : Int) (ha : 0 ≤ a) (hb : a ≤ 31) : ∀ k : Nat, k ≤ 16 → (nums (segF a k)).length = k
  | 0, _ => by rw [segF_zero]; rfl
  | k + 1, h => by rw [segF_succ a k ha, nums_some (by omega) (segF_out a k (by omega) (by omega)), segF_nums a ha hb k (by omega)]
theorem seg_hear (a : Int) (ha : 0 ≤ a) (hb : a ≤ 31) (k : Nat) (h : k < 16) : hearF (segF a k) (a + k) = (0, segF a (k + 1)) := by
  unfold hearF
  rw [if_pos (by omega), segF_out a k (by omega) (by omega)]
  dsimp only
  rw [if_neg (by rw [segF_nums a ha hb k (by omega)]; omega), segF_succ a k ha]
theorem seg_again (a : Int) (ha : 0 ≤ a) (hb : a ≤ 31) (k : Nat) (h : k < 16) : hearF (segF a (k + 1)) (a + k) = (0, segF a (k + 1)) := by
  unfold hearF
  rw [if_pos (by omega), segF_in a (k + 1) (by omega) (by omega)]
  dsimp only
  congr 1
  funext j
  unfold upd
  by_cases e : j = (a + k).toNat
  · rw [if_pos e, e, segF_in a (k + 1) (by omega) (by omega)]
  · rw [if_neg e]
theorem seg_more (a : Int) (ha : 0 ≤ a) (hb : a ≤ 31) (o : Int) (ho : 0 ≤ o ∧ o ≤ 47) (h : o < a ∨ a + 16 ≤ o) : hearF (segF a 16) o = (7, segF a 16) := by
  unfold hearF
  rw [if_pos (by omega), segF_out a 16 (by omega) (by omega)]
  dsimp only
  rw [if_pos (segF_nums a ha hb 16 (by omega))]
/-- One is dropped, the other taken. -/
def segD (a : Int) : FT := upd (segF a 16) (a + 3).toNat none
theorem seg_drop (a : Int) (ha : 0 ≤ a) (hb : a ≤ 31) : dropF (segF a 16) (a + 3) = segD a := by
  unfold dropF
  rw [if_pos (by omega)]
  rfl
theorem segD_nums (a : Int) (ha : 0 ≤ a) (hb : a ≤ 31) : (nums (segD a)).length = 15 := by
  have h1 := nums_gone (f := segF a 16) (k := (a + 3).toNat) (by omega) (segF_in a 16 (by omega) (by omega))
  rw [segF_nums a ha hb 16 (by omega)] at h1
  unfold segD
  omega
theorem segD_out (a : Int) (ha : 0 ≤ a) (o : Int) (ho : 0 ≤ o) (h : o < a ∨ a + 16 ≤ o) : segD a o.toNat = none := by
  unfold segD upd
  rw [if_neg (by omega), segF_out a 16 ho (by omega)]
theorem segD_hear (a : Int) (ha : 0 ≤ a) (hb : a ≤ 31) (o : Int) (ho : 0 ≤ o ∧ o ≤ 47) (h : o < a ∨ a + 16 ≤ o) : hearF (segD a) o = (0, upd (segD a) o.toNat (some (0, 0))) := by
  unfold hearF
  rw [if_pos (by omega), segD_out a ha o ho.1 h]
  dsimp only
  rw [if_neg (by rw [segD_nums a ha hb]; decide)]
theorem segE_nums (a : Int) (ha : 0 ≤ a) (hb : a ≤ 31) (o : Int) (ho : 0 ≤ o ∧ o ≤ 47) (h : o < a ∨ a + 16 ≤ o) : (nums (upd (segD a) o.toNat (some (0, 0)))).length = 16 := by
  rw [nums_some (by omega) (segD_out a ha o ho.1 h), segD_nums a ha hb]
set_option maxRecDepth 100000 in
set_option maxHeartbeats 8000000 in
theorem clepsydralaw14_MemberRoom.calls (a o : Int) (w : World) : Calls Try.prog 9 #[.int .i64 a, .int .i64 o] w fun e w' => e = .returned (.bool true) ∧ Below w.heap.size w w' := by
  by_cases h1 : a < 0
  · skip
    go_enter Try.func9, Try.ntmps9
    go_wp2_with (go_at_call 23; (with_reducible refine (alive_calls _).mono ?_); rintro e wa ⟨rfl, HB⟩)
    go_ret
    exact ⟨rfl, HB.out⟩
  by_cases h2 : a > 31
  · skip
    go_enter Try.func9, Try.ntmps9
    go_wp2_with (go_at_call 23; (with_reducible refine (alive_calls _).mono ?_); rintro e wa ⟨rfl, HB⟩)
    go_ret
    exact ⟨rfl, HB.out⟩
  by_cases h3 : o < 0
  · skip
    go_enter Try.func9, Try.ntmps9
    go_wp2_with (go_at_call 23; (with_reducible refine (alive_calls _).mono ?_); rintro e wa ⟨rfl, HB⟩)
    go_ret
    exact ⟨rfl, HB.out⟩
  by_cases h4 : o > 47
  · skip
    go_enter Try.func9, Try.ntmps9
    go_wp2_with (go_at_call 23; (with_reducible refine (alive_calls _).mono ?_); rintro e wa ⟨rfl, HB⟩)
    go_ret
    exact ⟨rfl, HB.out⟩
  have hr1 : -9223372036854775808 ≤ a + 16 := by omega
  have hr2 : a + 16 ≤ 9223372036854775807 := by omega
  have HA0 : Hid (0 ≤ a) := Lib.hid (by omega)
  have HA1 : Hid (a ≤ 31) := Lib.hid (by omega)
  have HO : Hid (0 ≤ o ∧ o ≤ 47) := Lib.hid (by omega)
  by_cases h5 : o ≥ a
  · by_cases h6 : o < a + 16
    · skip
      go_enter Try.func9, Try.ntmps9
      go_wp2_with (go_at_call 23; (with_reducible refine (alive_calls _).mono ?_); rintro e wa ⟨rfl, HB⟩)
      go_ret
      exact ⟨rfl, HB.out⟩
    · have HX : Hid (o < a ∨ a + 16 ≤ o) := Lib.hid (by omega)
      go_enter Try.func9, Try.ntmps9
      go_wp2_with (first
        | (go_at_call 23; (with_reducible refine (alive_calls _).mono ?_); rintro e wa ⟨rfl, HB⟩)
        | (go_at_call 24; (with_reducible refine (new_to w _ HB.out).mono ?_); rintro e w1 ⟨t, b, rfl, S0, B0⟩))
      go_loopw [6] (fun v6 wr => ∃ k : Nat, k ≤ 16 ∧ v6 = .int .i64 k ∧ Hid (St w wr t b (segF a k))) (fun v6 _ => 16 - (intOf v6).toNat)
      case atStart => exact ⟨0, by omega, rfl, by rw [segF_zero]; exact S0⟩
      case round =>
        obtain ⟨k, hk, rfl, S⟩ := hrel
        by_cases hlt : k < 16
        · have hk1 : (k : Int) < 16 := by omega
          have hr1 : -9223372036854775808 ≤ a + (k : Int) := by omega
          have hr2 : a + (k : Int) ≤ 9223372036854775807 := by omega
          have HS := Lib.hid (seg_hear a HA0.out HA1.out k hlt)
          have HS2 := Lib.hid (seg_again a HA0.out HA1.out k hlt)
          go_wp2_with fail
          refine (hear_to S.out (a + k) 0 (segF a (k + 1)) HS.out).mono ?_
          rintro e w2 ⟨rfl, S1, O1⟩
          go_wp2_with fail
          refine (hear_to S1.out (a + k) 0 (segF a (k + 1)) HS2.out).mono ?_
          rintro e w3 ⟨rfl, S2, O2⟩
          go_wp2_with fail
          go_roundw
          case rel => exact ⟨k + 1, by omega, by simp, S2⟩
          case measure => simp [intOf]; omega
        · obtain rfl : k = 16 := by omega
          have hr3 : -9223372036854775808 ≤ a + 3 := by omega
          have hr4 : a + 3 ≤ 9223372036854775807 := by omega
          go_wp2_with fail
          refine (hear_to S.out o 7 (segF a 16) (seg_more a HA0.out HA1.out o HO.out HX.out)).mono ?_
          rintro e w2 ⟨rfl, S1, O1⟩
          go_wp2_with fail
          refine (near_to S1.out _ rfl 16 (segF_nums a HA0.out HA1.out 16 (by omega))).mono ?_
          rintro e w3 ⟨A3, c3, rfl, _, S2, _⟩
          go_wp2_with fail
          refine (drop_to S2.out (a + 3) (by omega) (segD a) (seg_drop a HA0.out HA1.out)).mono ?_
          rintro e w4 ⟨rfl, S3, _⟩
          go_wp2_with fail
          refine (hear_to S3.out o 0 _ (segD_hear a HA0.out HA1.out o HO.out HX.out)).mono ?_
          rintro e w5 ⟨rfl, S4, _⟩
          go_wp2_with fail
          refine (near_to S4.out _ rfl 16 (segE_nums a HA0.out HA1.out o HO.out HX.out)).mono ?_
          rintro e w6 ⟨A6, c6, rfl, _, S5, _⟩
          go_wp2_with fail
          go_ret
          exact ⟨rfl, S5.out.below⟩
  · have HX : Hid (o < a ∨ a + 16 ≤ o) := Lib.hid (by omega)
    go_enter Try.func9, Try.ntmps9
    go_wp2_with (first
      | (go_at_call 23; (with_reducible refine (alive_calls _).mono ?_); rintro e wa ⟨rfl, HB⟩)
      | (go_at_call 24; (with_reducible refine (new_to w _ HB.out).mono ?_); rintro e w1 ⟨t, b, rfl, S0, B0⟩))
    go_loopw [6] (fun v6 wr => ∃ k : Nat, k ≤ 16 ∧ v6 = .int .i64 k ∧ Hid (St w wr t b (segF a k))) (fun v6 _ => 16 - (intOf v6).toNat)
    case atStart => exact ⟨0, by omega, rfl, by rw [segF_zero]; exact S0⟩
    case round =>
      obtain ⟨k, hk, rfl, S⟩ := hrel
      by_cases hlt : k < 16
      · have hk1 : (k : Int) < 16 := by omega
        have hr1 : -9223372036854775808 ≤ a + (k : Int) := by omega
        have hr2 : a + (k : Int) ≤ 9223372036854775807 := by omega
        have HS := Lib.hid (seg_hear a HA0.out HA1.out k hlt)
        have HS2 := Lib.hid (seg_again a HA0.out HA1.out k hlt)
        go_wp2_with fail
        refine (hear_to S.out (a + k) 0 (segF a (k + 1)) HS.out).mono ?_
        rintro e w2 ⟨rfl, S1, O1⟩
        go_wp2_with fail
        refine (hear_to S1.out (a + k) 0 (segF a (k + 1)) HS2.out).mono ?_
        rintro e w3 ⟨rfl, S2, O2⟩
        go_wp2_with fail
        go_roundw
        case rel => exact ⟨k + 1, by omega, by simp, S2⟩
        case measure => simp [intOf]; omega
      · obtain rfl : k = 16 := by omega
        have hr3 : -9223372036854775808 ≤ a + 3 := by omega
        have hr4 : a + 3 ≤ 9223372036854775807 := by omega
        go_wp2_with fail
        refine (hear_to S.out o 7 (segF a 16) (seg_more a HA0.out HA1.out o HO.out HX.out)).mono ?_
        rintro e w2 ⟨rfl, S1, O1⟩
        go_wp2_with fail
        refine (near_to S1.out _ rfl 16 (segF_nums a HA0.out HA1.out 16 (by omega))).mono ?_
        rintro e w3 ⟨A3, c3, rfl, _, S2, _⟩
        go_wp2_with fail
        refine (drop_to S2.out (a + 3) (by omega) (segD a) (seg_drop a HA0.out HA1.out)).mono ?_
        rintro e w4 ⟨rfl, S3, _⟩
        go_wp2_with fail
        refine (hear_to S3.out o 0 _ (segD_hear a HA0.out HA1.out o HO.out HX.out)).mono ?_
        rintro e w5 ⟨rfl, S4, _⟩
        go_wp2_with fail
        refine (near_to S4.out _ rfl 16 (segE_nums a HA0.out HA1.out o HO.out HX.out)).mono ?_
        rintro e w6 ⟨A6, c6, rfl, _, S5, _⟩
        go_wp2_with fail
        go_ret
        exact ⟨rfl, S5.out.below⟩
end Go.Proofs.Ytcopnddmkmgihaa.Mb
