/- AlarmOnce: each timer goes off once: the walk. -/
import Derived.Test.YtcopnddmkmgihaaAo
namespace Go.Proofs.Ytcopnddmkmgihaa.Ak
open Go.RowKit Go.Proofs.YtcopnddmkmgihaaW.PrintWords Go.Proofs.YtcopnddmkmgihaaW.PrintLast Go.Proofs.YtcopnddmkmgihaaW.PrintMore Go.Proofs.YtcopnddmkmgihaaEv
set_option linter.unusedVariables false
set_option linter.unusedSimpArgs false
theorem in_cell {w0 w : World} {A : Option Addr} {xs : List Int} (h : Kd.C (Kd.int .i64) w0 A xs.length xs) (hb : Below w0.heap.size w0 w) (k : Nat) (hk : k < xs.length) : ∃ ad, A = some ad ∧ w.cell? (ad.add k) = some (.int .i64 (rd xs k)) := by
  obtain ⟨ad, e, hc⟩ := Kd.at_int h k (by omega) (by omega)
  exact ⟨ad, e, pw_cell_below hb (by simpa using hc)⟩
/-- A table of the law's own, and a row of Bools beside it. -/
structure Mem (w0 w : World) (t : Nat) (l : List (Int × Int)) (g : Nat) (offs : List Bool) : Prop where
  st : St w0 w t l
  blk : w.heap[g]? = some (.cells (offs.map Value.bool).toArray 4 (0, 0))
  low : w0.heap.size ≤ g
theorem Mem.drewN {w0 w : World} {t : Nat} {l : List (Int × Int)} {g : Nat} {offs : List Bool} (h : Mem w0 w t l g offs) (n : Nat) : Mem w0 (w.drewN n) t l g offs :=
  ⟨h.st.on (pw_below_drewN (Below.refl _ _) n), h.blk, h.low⟩
theorem Mem.cell {w0 w : World} {t : Nat} {l : List (Int × Int)} {g : Nat} {offs : List Bool} (h : Mem w0 w t l g offs) {i : Nat} {b : Bool} (hi : offs[i]? = some b) : w.cell? ⟨g, i, none⟩ = some (.bool b) := by
  rw [blk_cell h.blk]
  simp [hi]
theorem Mem.set {w0 w : World} {t : Nat} {l : List (Int × Int)} {g : Nat} {offs : List Bool} (h : Mem w0 w t l g offs) (i : Nat) (b : Bool) : Mem w0 (w.setCell ⟨g, i, none⟩ (.bool b)) t l g (offs.set i b) := by
  have hc : Chg (fun k => k = g) w (w.setCell ⟨g, i, none⟩ (.bool b)) := (Chg.refl _ w).set _ _ (fun _ => rfl)
  obtain ⟨v, h1, h2⟩ := h.st.tab
  refine ⟨⟨⟨v, h1.keep hc (fun k hk e => ?_), h2⟩, h.st.good, h.st.len, Chg.below h.st.below hc h.st.below.size (fun k hk e => by have := h.low; omega)⟩, ?_, h.low⟩
  · subst e
    obtain ⟨c, e | e⟩ := h1.types k hk
    · exact absurd (h.blk.symm.trans e) (by simp)
    · exact absurd (h.blk.symm.trans e) (by simp)
  · rw [blk_set h.blk]
    congr 2
    apply Array.ext_getElem?
    intro j
    rw [Array.getElem?_setIfInBounds]
    simp only [List.size_toArray, List.length_map, List.getElem?_toArray, List.getElem?_map, List.getElem?_set]
    by_cases e : i = j
    · subst e
      simp only [if_true]
      split <;> simp_all
    · simp [e]
theorem mem_due {w0 w : World} {t : Nat} {l : List (Int × Int)} {g : Nat} {offs : List Bool} (h : Mem w0 w t l g offs) (now : Int) (ys rest : List (Int × Int)) (e1 : l.takeWhile (due now) = ys) (e2 : l.dropWhile (due now) = rest) :
    Calls Try.prog 14 #[.pointer (some ⟨t, 0, none⟩), .int .i64 now] w fun e w' => ∃ A c, e = .returned (.slice A ys.length c) ∧ Hid (∀ j (hj : j < ys.length), ∃ k, A = some ⟨k, 0, none⟩ ∧ k ≠ g ∧ w'.cell? ⟨k, j, none⟩ = some (.int .i64 ys[j].1)) ∧ Hid (Mem w0 w' t rest g offs) := by
  refine (due_to h.st now ys rest _ rfl e1 e2).mono ?_
  rintro e w' ⟨A, c, rfl, h1, h2, h3⟩
  have hlt := blk_lt h.blk
  refine ⟨A, c, rfl, Lib.hid (fun j hj => ?_), Lib.hid ⟨h2.out, h3.out.same g _ h.blk (fun c => ⟨by simp, by simp⟩), h.low⟩⟩
  obtain ⟨k, e1, e2, e3⟩ := h1.out j hj
  exact ⟨k, e1, by omega, e3⟩
theorem row_kept {w : World} {A : Option Addr} {ys : List (Int × Int)} {g : Nat} (h : ∀ j (hj : j < ys.length), ∃ k, A = some ⟨k, 0, none⟩ ∧ k ≠ g ∧ w.cell? ⟨k, j, none⟩ = some (.int .i64 ys[j].1)) (n i : Nat) (b : Bool) :
    ∀ j (hj : j < ys.length), ∃ k, A = some ⟨k, 0, none⟩ ∧ k ≠ g ∧ ((w.drewN n).setCell ⟨g, i, none⟩ (.bool b)).cell? ⟨k, j, none⟩ = some (.int .i64 ys[j].1) := by
  intro j hj
  obtain ⟨k, e1, e2, e3⟩ := h j hj
  refine ⟨k, e1, e2, ?_⟩
  have : ((w.drewN n).setCell ⟨g, i, none⟩ (.bool b)).heap[k]? = w.heap[k]? := Below.heap_setCell (w.drewN n) ⟨g, i, none⟩ (.bool b) k e2
  rw [show ((w.drewN n).setCell ⟨g, i, none⟩ (.bool b)).cell? ⟨k, j, none⟩ = w.cell? ⟨k, j, none⟩ by simp [World.cell?, this]]
  exact e3
theorem made_bools (n : Nat) : madeCells #[Value.bool false] n = ((List.replicate n false).map Value.bool).toArray := by
  apply Array.ext_getElem?
  intro i
  simp only [List.getElem?_toArray, List.map_replicate, List.getElem?_replicate]
  by_cases h : i < n
  · simp [h, madeCells, Nat.mod_one]
  · simp [h, madeCells]
theorem made_mem {w0 w : World} {t : Nat} {l : List (Int × Int)} (h : St w0 w t l) (n : Nat) : Mem w0 (w.alloc (.cells (madeCells #[Value.bool false] n) 4)) t l w.heap.size (List.replicate n false) := by
  refine ⟨h.on (below_alloc (Below.refl _ _) _), ?_, h.below.size⟩
  rw [made_bools]
  show (w.heap.push _)[w.heap.size]? = _
  rw [Array.getElem?_push_size]
set_option maxRecDepth 100000 in
set_option maxHeartbeats 8000000 in
theorem clepsydralaw09_AlarmOnce.calls (A0 : Option Addr) (c0 : Nat) (l0 : List Int) (A1 : Option Addr) (c1 : Nat) (l1 : List Int) (w : World) (hr0 : Kd.C (Kd.int .i64) w A0 l0.length l0) (hc0 : l0.length ≤ c0) (hr1 : Kd.C (Kd.int .i64) w A1 l1.length l1) (hc1 : l1.length ≤ c1) :
    Calls Try.prog 3 #[.slice A0 l0.length c0, .slice A1 l1.length c1] w fun e w' => e = .returned (.bool true) ∧ Below w.heap.size w w' := by
  have R0 := Lib.hid hr0
  have R1 := Lib.hid hr1
  clear hr0 hr1 hc0 hc1
  by_cases hg : (l0.length : Int) > 64
  · go_enter Try.func3, Try.ntmps3
    go_wp2_with (go_at_call 11; (with_reducible refine (alive_calls _).mono ?_); rintro e wa ⟨rfl, HB⟩)
    go_ret
    exact ⟨rfl, HB⟩
  by_cases hg1 : (l1.length : Int) > 100
  · go_enter Try.func3, Try.ntmps3
    go_wp2_with (go_at_call 11; (with_reducible refine (alive_calls _).mono ?_); rintro e wa ⟨rfl, HB⟩)
    go_ret
    exact ⟨rfl, HB⟩
  have h64 : l0.length ≤ 64 := by omega
  have h100 : l1.length ≤ 100 := by omega
  have H64 := Lib.hid h64
  have H100 := Lib.hid h100
  have hmk := print_make_of (P := Try.prog) 28 4 (.bool false) 1 Try.underlying28 (by kernel_rfl) rfl (by decide) l0.length (by omega)
  clear h64 h100
  go_enter Try.func3, Try.ntmps3
  go_wp2_with (first
    | (go_at_call 11; (with_reducible refine (alive_calls _).mono ?_); rintro e wa ⟨rfl, HB⟩)
    | (go_at_call 12; (with_reducible refine (new_to w _ HB).mono ?_); rintro e w1 ⟨t, rfl, S0, B0⟩))
  clear hg hg1
  go_loopw [32] (fun v32 wr => ∃ k : Nat, k ≤ l0.length ∧ v32 = .int .i64 k ∧ Hid (St w wr t (tl l0 k))) (fun v32 _ => l0.length - (intOf v32).toNat)
  case atStart => exact ⟨0, by omega, rfl, show Hid (St w _ t (tl l0 0)) from S0⟩
  case round =>
    obtain ⟨k, hk, rfl, S⟩ := hrel
    by_cases hlt : k < l0.length
    · have hk1 : (k : Int) < (l0.length : Int) := by omega
      have h64 := H64.out
      have HS := Lib.hid (tl_set l0 k (by omega))
      have hs1 : -9223372036854775808 ≤ (k : Int) + 1 := by omega
      have hs2 : (k : Int) + 1 ≤ 9223372036854775807 := by omega
      obtain ⟨ad, e, hx⟩ := in_cell R0.out S.out.below k hlt
      cases e
      clear h64
      go_wp2_with (go_at_call 13; (with_reducible refine (set_to S.out k (rd l0 k) 0 (tl l0 (k + 1)) HS.out).mono ?_); rintro e w2 ⟨rfl, S1, O1⟩)
      go_roundw
      case rel => exact ⟨k + 1, by omega, by simp, S1⟩
      case measure => simp [intOf]; omega
    · obtain rfl : k = l0.length := by omega
      have HM := Lib.hid (made_mem S.out l0.length)
      have HI := Lib.hid (inv_start l0 H64.out)
      go_wp2
      generalize wr.heap.size = g at HM ⊢
      go_loopw [48] (fun v48 wr => ∃ (k : Nat) (offs : List Bool) (l : List (Int × Int)), k ≤ l1.length ∧ v48 = .int .i64 k ∧ Hid (Mem w wr t l g offs) ∧ Hid (Inv l0 offs l)) (fun v48 _ => l1.length - (intOf v48).toNat)
      case atStart => exact ⟨0, _, _, by omega, rfl, HM, HI⟩
      case round =>
        clear HM HI S
        obtain ⟨k, offs, l, hk, rfl, HM, HI⟩ := hrel
        by_cases hlt : k < l1.length
        · have hk1 : (k : Int) < (l1.length : Int) := by omega
          have h100 := H100.out
          have hs1 : -9223372036854775808 ≤ (k : Int) + 1 := by omega
          have hs2 : (k : Int) + 1 ≤ 9223372036854775807 := by omega
          obtain ⟨ad, e, hx⟩ := in_cell R1.out HM.out.st.below k hlt
          cases e
          clear h100
          obtain ⟨ys, hys⟩ : ∃ ys, ys = l.takeWhile (due (rd l1 k)) := ⟨_, rfl⟩
          have HY := Lib.hid hys
          clear hys
          go_wp2_with (go_at_call 14; (with_reducible refine (mem_due HM.out (rd l1 k) ys _ HY.out.symm rfl).mono ?_); rintro e w2 ⟨A2, c2, rfl, HR, HM2⟩)
          have HYL : Hid (ys.length ≤ 64) := Lib.hid (by rw [HY.out]; exact Nat.le_trans (List.Sublist.length_le (List.takeWhile_sublist _)) HM.out.st.len)
          clear HM
          go_loopw [57] (fun v57 wr => ∃ (m : Nat), m ≤ ys.length ∧ v57 = .int .i64 m ∧ Hid (Mem w wr t (l.dropWhile (due (rd l1 k))) g (mark offs (ys.take m))) ∧ Hid (∀ j (hj : j < ys.length), ∃ q, A2 = some ⟨q, 0, none⟩ ∧ q ≠ g ∧ wr.cell? ⟨q, j, none⟩ = some (.int .i64 ys[j].1))) (fun v57 _ => ys.length - (intOf v57).toNat)
          case atStart => exact ⟨0, by omega, rfl, HM2, HR⟩
          case round =>
            clear HM2 HR
            obtain ⟨m, hm, rfl, HM, HR⟩ := hrel
            by_cases hmt : m < ys.length
            · have hm1 : (m : Int) < (ys.length : Int) := by omega
              have hyl := HYL.out
              have ht1 : -9223372036854775808 ≤ (m : Int) + 1 := by omega
              have ht2 : (m : Int) + 1 ≤ 9223372036854775807 := by omega
              have hone : ∃ i : Nat, i < l0.length ∧ ys[m] = ((i : Int), rd l0 i) ∧ (mark offs (ys.take m))[i]? = some false ∧ rd l0 i ≤ rd l1 k ∧ mark offs (ys.take (m + 1)) = (mark offs (ys.take m)).set i true ∧ (∀ p, p + 1 = m → ∃ j : Nat, j < l0.length ∧ ∃ hp : p < ys.length, ys[p] = ((j : Int), rd l0 j) ∧ rd l0 j ≤ rd l0 i) := by
                have e := HY.out
                subst e
                exact one_off HI.out _ _ hmt
              obtain ⟨i, hi, ey, hf, hdue, hmark, hprev⟩ := hone
              obtain ⟨q, eq, hqg, hcell⟩ := HR.out m hmt
              cases eq
              rw [ey] at hcell
              obtain ⟨ad0, e0, hx0⟩ := in_cell R0.out HM.out.st.below i hi
              cases e0
              have hoff := HM.out.cell hf
              have i0 : (i : Int) < (l0.length : Int) := by omega
              have i1 : ¬ (i : Int) < 0 := by omega
              have i2 : (0 : Int) ≤ (i : Int) := by omega
              have d1 : decide ((i : Int) < 0) = false := by simp
              have d2 : decide ((l0.length : Int) ≤ (i : Int)) = false := by simp; omega
              have d2' : decide (l0.length ≤ i) = false := by simp; omega
              have d2'' : (decide ((i : Int) ≥ (l0.length : Int))) = false := by simp; omega
              have d3 : decide (rd l1 k < rd l0 i) = false := by simp; omega
              have HMK := Lib.hid hmark
              clear hmark hyl hf hdue
              by_cases hm0 : m = 0
              · have d4 : decide ((0 : Int) < (m : Int)) = false := by simp; omega
                have d4' : decide (0 < m) = false := by simp; omega
                clear hprev ey hm0
                go_wp2
                refine wp_region_quiet_lit (by kernel_rfl) (by kernel_rfl) ?_
                repeat (go_big_quiet_step (fail))
                refine wpQuiet_nil ?_
                intro _ hw'
                obtain ⟨nq, hw''⟩ := hw'
                subst hw''
                have hfz1 : wr.frozen? ⟨g, i, none⟩ = false := blk_frozen HM.out.blk i
                have hfz2 : (wr.drewN nq).frozen? ⟨g, i, none⟩ = false := hfz1
                have hoff2 : (wr.drewN nq).cell? ⟨g, i, none⟩ = some (.bool false) := hoff
                go_wp2
                go_roundw
                case rel =>
                  refine ⟨m + 1, by omega, by simp, Lib.hid ?_, Lib.hid (row_kept HR.out nq i true)⟩
                  rw [HMK.out]
                  exact (HM.out.drewN nq).set i true
                case measure => simp [intOf]; omega
              · obtain ⟨n, hn⟩ : ∃ n, n + 1 = m := ⟨m - 1, by omega⟩
                obtain ⟨j, hj, hpl, eyj, hle⟩ := hprev n hn
                obtain ⟨q', eq', _, hcell'⟩ := HR.out n hpl
                cases eq'
                rw [eyj] at hcell'
                obtain ⟨ad1, e1, hx1⟩ := in_cell R0.out HM.out.st.below j hj
                cases e1
                have j0 : (j : Int) < (l0.length : Int) := by omega
                have d5 : decide (rd l0 i < rd l0 j) = false := by simp; omega
                have d4 : decide ((0 : Int) < (m : Int)) = true := by simp; omega
                have d4' : decide (0 < m) = true := by simp; omega
                have hpm : (n : Int) < (ys.length : Int) := by omega
                have hw1 : IntKind.i64.wrap ((m : Int) - 1) = (n : Int) := by rw [IntWalk.i64_in _ (by omega)]; omega
                have hw2 : (m : Int) - 1 = (n : Int) := by omega
                clear hprev ey eyj hle hm0 hn
                go_wp2
                refine wp_region_quiet_lit (by kernel_rfl) (by kernel_rfl) ?_
                repeat (go_big_quiet_step (fail))
                refine wpQuiet_nil ?_
                intro _ hw'
                obtain ⟨nq, hw''⟩ := hw'
                subst hw''
                have hfz1 : wr.frozen? ⟨g, i, none⟩ = false := blk_frozen HM.out.blk i
                have hfz2 : (wr.drewN nq).frozen? ⟨g, i, none⟩ = false := hfz1
                have hoff2 : (wr.drewN nq).cell? ⟨g, i, none⟩ = some (.bool false) := hoff
                go_wp2
                go_roundw
                case rel =>
                  refine ⟨m + 1, by omega, by simp, Lib.hid ?_, Lib.hid (row_kept HR.out nq i true)⟩
                  rw [HMK.out]
                  exact (HM.out.drewN nq).set i true
                case measure => simp [intOf]; omega
            · obtain rfl : m = ys.length := by omega
              have HI2 : Hid (Inv l0 (mark offs ys) (l.dropWhile (due (rd l1 k)))) := Lib.hid (by rw [HY.out]; exact inv_due HI.out _)
              have HNP : Hid (∀ i, i < l0.length → rd l0 i ≤ rd l1 k → (mark offs ys)[i]? = some true) := Lib.hid (by rw [HY.out]; exact fun i hi hx => none_passed (inv_due HI.out _) HI.out.good.ord i hi hx)
              rw [List.take_length] at HM
              go_wp2
              go_loopw [109] (fun v109 wr' => ∃ (i : Nat), i ≤ l0.length ∧ v109 = .int .i64 i ∧ Hid (Mem w wr' t (l.dropWhile (due (rd l1 k))) g (mark offs ys))) (fun v109 _ => l0.length - (intOf v109).toNat)
              case atStart => exact ⟨0, by omega, rfl, HM⟩
              case round =>
                clear HM HR
                obtain ⟨i, hi, rfl, HM⟩ := hrel
                by_cases hit : i < l0.length
                · have hi1 : (i : Int) < (l0.length : Int) := by omega
                  have h64 := H64.out
                  have hu1 : -9223372036854775808 ≤ (i : Int) + 1 := by omega
                  have hu2 : (i : Int) + 1 ≤ 9223372036854775807 := by omega
                  obtain ⟨ad0, e0, hx0⟩ := in_cell R0.out HM.out.st.below i hit
                  cases e0
                  clear h64
                  by_cases hle : rd l0 i ≤ rd l1 k
                  · have hoff := HM.out.cell (HNP.out i hit hle)
                    have d1 : decide (rd l0 i ≤ rd l1 k) = true := decide_eq_true hle
                    go_wp2
                    go_roundw
                    case rel => exact ⟨i + 1, by omega, by simp, HM⟩
                    case measure => simp [intOf]; omega
                  · have d1 : decide (rd l0 i ≤ rd l1 k) = false := decide_eq_false hle
                    go_wp2
                    go_roundw
                    case rel => exact ⟨i + 1, by omega, by simp, HM⟩
                    case measure => simp [intOf]; omega
                · obtain rfl : i = l0.length := by omega
                  go_wp2
                  go_roundw
                  case rel => exact ⟨k + 1, _, _, by omega, by simp, HM, HI2⟩
                  case measure => simp [intOf]; omega
        · obtain rfl : k = l1.length := by omega
          have HL : Hid (offs.length = l0.length) := Lib.hid HI.out.len
          go_wp2
          go_loopw [16, 128] (fun v16 v128 wr' => ∃ (i : Nat), i ≤ l0.length ∧ v16 = .int .i64 (cnt offs i) ∧ v128 = .int .i64 i ∧ Hid (Mem w wr' t l g offs)) (fun v16 v128 _ => l0.length - (intOf v128).toNat)
          case atStart => exact ⟨0, by omega, rfl, rfl, HM⟩
          case round =>
            clear HM
            obtain ⟨i, hi, rfl, rfl, HM⟩ := hrel
            by_cases hit : i < l0.length
            · have hi1 : (i : Int) < (l0.length : Int) := by omega
              have h64 := H64.out
              have hc : cnt offs i ≤ i := by
                unfold cnt
                exact Nat.le_trans (List.length_filter_le _ _) (by rw [List.length_take]; omega)
              have hu1 : -9223372036854775808 ≤ (i : Int) + 1 := by omega
              have hu2 : (i : Int) + 1 ≤ 9223372036854775807 := by omega
              have hu3 : -9223372036854775808 ≤ (cnt offs i : Int) + 1 := by omega
              have hu4 : (cnt offs i : Int) + 1 ≤ 9223372036854775807 := by omega
              have hgb : offs[i]? = some (offs[i]'(by rw [HL.out]; exact hit)) := List.getElem?_eq_getElem _
              clear h64 hc
              generalize offs[i]'(by rw [HL.out]; exact hit) = b at hgb
              have hoff := HM.out.cell hgb
              have HCS := Lib.hid (cnt_succ hgb)
              clear hgb
              cases b
              · go_wp2
                go_roundw
                case rel => exact ⟨i + 1, by omega, by rw [HCS.out]; simp, by simp, HM⟩
                case measure => simp [intOf]; omega
              · go_wp2
                go_roundw
                case rel => exact ⟨i + 1, by omega, by rw [HCS.out]; simp, by simp, HM⟩
                case measure => simp [intOf]; omega
            · obtain rfl : i = l0.length := by omega
              have HN : Hid ((l.length : Int) = (cnt offs l0.length : Int)) := Lib.hid (by rw [inv_count HI.out, HL.out])
              go_wp2_with (go_at_call 15; (with_reducible refine (len_to HM.out.st _ HN.out).mono ?_); rintro e w3 ⟨rfl, rfl⟩)
              go_ret
              exact ⟨by simp, HM.out.st.below⟩
end Go.Proofs.Ytcopnddmkmgihaa.Ak
