/- MemberDoes: in every script each answer, the neighbours and their ages are the document's: the walk. -/
import Derived.Test.YtcopnddmkmgihaaMz
import Derived.Deep.RegionHeld3
namespace Go.Proofs.Ytcopnddmkmgihaa.Mb
open Go.RowKit Go.Maps Go.Sort Go.Shelf Go.ChangeMaps Go.MapKept Go.Proofs.YtcopnddmkmgihaaW.PrintWords Go.Proofs.YtcopnddmkmgihaaW.PrintLast Go.Proofs.YtcopnddmkmgihaaW.PrintMore Go.Proofs.YtcopnddmkmgihaaEv Go.Proofs.YtcopnddmkmgihaaRx
set_option linter.unusedVariables false
set_option linter.unusedSimpArgs false
theorem built53 : Try.prog.built 53 [] = some (arrF (fun _ => none)) := by kernel_rfl
theorem Cb.cells {w : World} {q : Nat} {x0 x1 : Int} (h : Cb w q x0 x1) : w.cell? ⟨q, 0, none⟩ = some (.int .i64 x0) ∧ w.cell? ⟨q, 1, none⟩ = some (.int .i64 x1) := ⟨blk_cell h 0, blk_cell h 1⟩
theorem pw_cb_below {w w' : World} {q : Nat} {x0 x1 : Int} (hb : Below w.heap.size w w') (h : Cb w q x0 x1) : Cb w' q x0 x1 := (hb.block q (blk_lt h)).trans h
theorem len48 (f : FT) : (nums f).length ≤ 48 := nums_length f
set_option maxRecDepth 100000 in
set_option maxHeartbeats 8000000 in
theorem clepsydralaw14_MemberDoes.calls (A0 : Option Addr) (c0 : Nat) (l0 : List S55) (w : World) (hr0 : Kd.C k55 w A0 l0.length l0) (hc0 : l0.length ≤ c0) (hw0 : Wf55 l0) :
    Calls Try.prog 7 #[.slice A0 l0.length c0] w fun e w' => e = .returned (.bool true) ∧ Below w.heap.size w w' := by
  have R0 := Lib.hid hr0
  have W0 := Lib.hid hw0
  clear hr0 hc0 hw0
  by_cases g0 : (l0.length : Int) > 400
  · go_enter Try.func7, Try.ntmps7
    go_wp2_with (go_at_call 23; (with_reducible refine (alive_calls _).mono ?_); rintro e wa ⟨rfl, HB⟩)
    go_ret
    exact ⟨rfl, HB.out⟩
  have HL : Hid (l0.length ≤ 400) := Lib.hid (by omega)
  go_enter Try.func7, Try.ntmps7
  go_wp2_with (first
    | (go_at_call 23; (with_reducible refine (alive_calls _).mono ?_); rintro e wa ⟨rfl, HB⟩)
    | (go_at_call 24; (with_reducible refine (new_to w _ HB.out).mono ?_); rintro e w1 ⟨t, b, rfl, S0, B0⟩)
    | ((with_reducible refine gate_dst (N := 21) rfl ?_); refine wpList_build rfl 53 #[] rfl (arrF (fun _ => none)) built53 ?_))
  clear g0
  have T0 : Hid (Du w (w1.alloc (.cells (arrF (fun _ => none)) 53 (0, 0))) t b w1.heap.size (fun _ => none) (fun _ => none)) := Lib.hid ⟨S0.out.grew _, blk_new w1 _, S0.out.below.size⟩
  clear S0 B0 HB
  generalize w1.heap.size = r at T0 ⊢
  go_loopw [25] (fun v25 wr => ∃ (k : Nat) (f : FT), k ≤ l0.length ∧ v25 = .int .i64 k ∧ Hid (Du w wr t b r f f)) (fun v25 _ => l0.length - (intOf v25).toNat)
  case atStart => exact ⟨0, _, by omega, rfl, T0⟩
  case round =>
    clear T0
    obtain ⟨k, f, hk, rfl, T⟩ := hrel
    by_cases hlt : k < l0.length
    · have hk1 : (k : Int) < (l0.length : Int) := by omega
      have hs1 : -9223372036854775808 ≤ (k : Int) + 1 := by omega
      have hs2 : (k : Int) + 1 ≤ 9223372036854775807 := by have := HL.out; omega
      obtain ⟨ad, e, hx⟩ := in55 R0.out T.out.st.below k hlt
      cases e
      have HW := Lib.hid (rd55_wf W0.out k)
      generalize (rd55 l0 k).f0 = x0 at hx
      generalize (rd55 l0 k).f1 = x1 at hx HW
      have HC := Lib.hid hx
      clear hx
      by_cases k0 : x0 = 0
      · subst k0
        go_wp2_with ((with_reducible refine gate_dst (N := 28) rfl ?_); refine load_cells rfl rfl (ad := ad.add (k * 2)) (cs := [.int .i64 0, .int .i64 x1]) ?hx Try.underlying55 rfl (by kernel_rfl) HC.out ?_; (case hx => go_simp; done))
        have T1 : Hid (Du w (wr.alloc (.cells #[.int .i64 0, .int .i64 x1] 55 (0, 0))) t b r f f) := Lib.hid (T.out.keep (below_alloc (Below.refl _ _) _))
        have C1 : Cb (wr.alloc (.cells #[.int .i64 0, .int .i64 x1] 55 (0, 0))) wr.heap.size 0 x1 := blk_new wr _
        clear T
        generalize wr.alloc (.cells #[.int .i64 0, .int .i64 x1] 55 (0, 0)) = W at T1 C1 ⊢
        generalize wr.heap.size = q at C1 ⊢
        cases hh : hearF f x1 with
        | mk e0 f1 =>
          have HH := Lib.hid hh
          clear hh
          have HS := Lib.hid (fun W (d : Du w W t b r f f) (c : Cb W q 0 x1) => d_hear1 d c x1 e0 f1 HH.out)
          have HS2 := Lib.hid (fun W (d : Du w W t b r f1 f) (c : Cb W q 0 x1) => d_hear2 d c x1 e0 f1 HH.out)
          go_region_held3 (fun w' => w'.cell? ⟨q, 0, none⟩ = some (.int .i64 0) ∧ w'.cell? ⟨q, 1, none⟩ = some (.int .i64 x1))
            (first | exact Cb.cells C4 | exact Cb.cells C3 | exact Cb.cells C1 | go_keep)
            (first
              | (go_at_call 25; refine (HS.out _ ?h1 ?h2).mono ?_; (case h1 => first | exact T1.out | exact T1.out.keep (pw_below_drewN (Below.refl _ _) 1)); (case h2 => exact C1); rintro e w3 ⟨rfl, T3, C3⟩)
              | (go_at_call 26; refine (HS2.out _ ?h1 ?h2).mono ?_; (case h1 => first | exact T3.out | exact T3.out.keep (pw_below_drewN (Below.refl _ _) 1)); (case h2 => exact C3); rintro e w4 ⟨rfl, T4, C4⟩))
          have T9 := T4
          clear T4 HS HS2
          obtain ⟨m, hm⟩ : ∃ m, (nums f1).length = m := ⟨_, rfl⟩
          have HM48 : Hid (m ≤ 48) := Lib.hid (by rw [← hm]; exact len48 _)
          have HMM := Lib.hid hm
          clear hm
          go_wp2_with fail
          refine (near_to T9.out.st _ rfl m HMM.out).mono ?_
          rintro e w5 ⟨A5, c5, rfl, HO5, _, HB5⟩
          have T10 := Lib.hid (T9.out.keep HB5.out)
          clear T9
          go_wp2_with fail
          refine (Numbers_calls w5 r f1 T10.out.rt _ rfl m HMM.out).mono ?_
          rintro e w6 ⟨A6, c6, rfl, HO6, HB6⟩
          have T11 := Lib.hid (T10.out.keep HB6.out)
          have HRD1 := Lib.hid ((row_rd HO5.out).2.below HB6.out)
          have HRD2 := Lib.hid (row_rd HO6.out).2
          clear T10 HO5 HO6 HB5 HB6
          go_wp2_with fail
          refine (Same_calls w6 A5 A6 m c5 c6 (nums f1) HMM.out HM48.out HRD1.out HRD2.out).mono ?_
          rintro e w7 ⟨rfl, HB7⟩
          have T12 := Lib.hid (T11.out.keep HB7.out)
          clear T11 HRD1 HRD2 HB7
          go_wp2_with ((with_reducible refine gate_dst (N := 87) rfl ?_); refine wl_arr_load rfl rfl (by rfl) T12.out.rt ?_)
          go_loopw [88] (fun v88 wr2 => ∃ i : Nat, i ≤ 48 ∧ v88 = .int .i64 i ∧ Hid (Du w wr2 t b r f1 f1)) (fun v88 _ => 48 - (intOf v88).toNat)
          case atStart => exact ⟨0, by omega, rfl, T12⟩
          case round =>
            clear T12
            obtain ⟨wz, hwz⟩ : ∃ wz : World, wz = wr := ⟨wr, rfl⟩
            subst hwz
            obtain ⟨i, hi, rfl, TT⟩ := hrel
            by_cases hlt2 : i < 48
            · have hi1 : (i : Int) < 48 := by omega
              have HI := Lib.hid hlt2
              cases hf : f1 i with
              | none =>
                have HF := Lib.hid hf
                have HA : Hid (atF f1 i = none) := Lib.hid (by unfold atF; rw [if_pos (by omega), Int.toNat_natCast, hf])
                have hb0 : (wz.alloc (.cells #[.bool false, .int .i64 0, .int .i64 0] 50 (0, 0))).cell? ⟨wz.heap.size, 0, none⟩ = some (.bool false) := blk_cell (blk_new wz _) 0
                have hb1 : (wz.alloc (.cells #[.bool false, .int .i64 0, .int .i64 0] 50 (0, 0))).cell? ⟨wz.heap.size, 1, none⟩ = some (.int .i64 0) := blk_cell (blk_new wz _) 1
                have HB0 := Lib.hid hb0
                have HB1 := Lib.hid hb1
                clear hf hb0 hb1
                go_wp2_with ((with_reducible refine gate_dst (N := 91) rfl ?_); refine wl_arr_index (k := i) (f := f1) rfl rfl (by rfl) (by rfl) HI.out ?_; rw [HF.out]; simp only [en])
                refine (age_to (TT.out.st.grew _) i (by omega) 0 false (by rw [HA.out]; rfl) (by rw [HA.out]; rfl)).mono ?_
                rintro e w8 ⟨rfl, S8, HB8⟩
                have hc0 := pw_cell_below HB8.out HB0.out
                have hc1 := pw_cell_below HB8.out HB1.out
                have T8 := Lib.hid ((TT.out.keep (below_alloc (Below.refl _ _) (.cells #[.bool false, .int .i64 0, .int .i64 0] 50 (0, 0)))).keep HB8.out)
                clear S8 HB8 HB0 HB1
                go_wp2_with fail
                go_roundw
                case rel => exact ⟨i + 1, by omega, by simp, T8⟩
                case measure => simp [intOf]; omega
              | some v =>
                obtain ⟨a, qt⟩ := v
                have HF := Lib.hid hf
                have HA : Hid (atF f1 i = some (a, qt)) := Lib.hid (by unfold atF; rw [if_pos (by omega), Int.toNat_natCast, hf])
                have hb0 : (wz.alloc (.cells #[.bool true, .int .i64 a, .int .i64 qt] 50 (0, 0))).cell? ⟨wz.heap.size, 0, none⟩ = some (.bool true) := blk_cell (blk_new wz _) 0
                have hb1 : (wz.alloc (.cells #[.bool true, .int .i64 a, .int .i64 qt] 50 (0, 0))).cell? ⟨wz.heap.size, 1, none⟩ = some (.int .i64 a) := blk_cell (blk_new wz _) 1
                have HB0 := Lib.hid hb0
                have HB1 := Lib.hid hb1
                clear hf hb0 hb1
                go_wp2_with ((with_reducible refine gate_dst (N := 91) rfl ?_); refine wl_arr_index (k := i) (f := f1) rfl rfl (by rfl) (by rfl) HI.out ?_; rw [HF.out]; simp only [en])
                refine (age_to (TT.out.st.grew _) i (by omega) a true (by rw [HA.out]; rfl) (by rw [HA.out]; rfl)).mono ?_
                rintro e w8 ⟨rfl, S8, HB8⟩
                have hc0 := pw_cell_below HB8.out HB0.out
                have hc1 := pw_cell_below HB8.out HB1.out
                have T8 := Lib.hid ((TT.out.keep (below_alloc (Below.refl _ _) (.cells #[.bool true, .int .i64 a, .int .i64 qt] 50 (0, 0)))).keep HB8.out)
                clear S8 HB8 HB0 HB1
                go_wp2_with fail
                go_roundw
                case rel => exact ⟨i + 1, by omega, by simp, T8⟩
                case measure => simp [intOf]; omega
            · obtain rfl : i = 48 := by omega
              go_wp2_with fail
              go_roundw
              case rel => exact ⟨k + 1, _, by omega, by simp, TT⟩
              case measure => simp [intOf]; omega
      by_cases k1 : x0 = 1
      · subst k1
        go_wp2_with ((with_reducible refine gate_dst (N := 28) rfl ?_); refine load_cells rfl rfl (ad := ad.add (k * 2)) (cs := [.int .i64 1, .int .i64 x1]) ?hx Try.underlying55 rfl (by kernel_rfl) HC.out ?_; (case hx => go_simp; done))
        have T1 : Hid (Du w (wr.alloc (.cells #[.int .i64 1, .int .i64 x1] 55 (0, 0))) t b r f f) := Lib.hid (T.out.keep (below_alloc (Below.refl _ _) _))
        have C1 : Cb (wr.alloc (.cells #[.int .i64 1, .int .i64 x1] 55 (0, 0))) wr.heap.size 1 x1 := blk_new wr _
        clear T
        generalize wr.alloc (.cells #[.int .i64 1, .int .i64 x1] 55 (0, 0)) = W at T1 C1 ⊢
        generalize wr.heap.size = q at C1 ⊢
        obtain ⟨gm, hgm⟩ : ∃ gm, (goneF x1 f).length = gm := ⟨_, rfl⟩
        have HGM := Lib.hid hgm
        have HG48 : Hid (gm ≤ 48) := Lib.hid (by rw [← hgm]; exact nums_length _)
        have HGOOD := Lib.hid T1.out.st.good
        clear hgm
        have HS := Lib.hid (fun W (d : Du w W t b r f f) (c : Cb W q 1 x1) => d_tick1 d c x1 _ rfl gm HGM.out)
        have HS2 := Lib.hid (fun W A1 c1 (d : Du w W t b r (tickF x1 f) f) (c : Cb W q 1 x1) (o : Ow W r A1 gm c1 (goneF x1 f)) => d_tick2 d c HGOOD.out o x1 rfl HGM.out)
        have HS3 := Lib.hid (fun W A1 A2 c1 c2 (h1 : Rd W A1 (goneF x1 f)) (h2 : Rd W A2 (goneF x1 f)) => Same_calls W A1 A2 gm c1 c2 _ HGM.out HG48.out h1 h2)
        go_region_held3 (fun w' => w'.cell? ⟨q, 0, none⟩ = some (.int .i64 1) ∧ w'.cell? ⟨q, 1, none⟩ = some (.int .i64 x1))
          (first | exact Cb.cells (pw_cb_below HB5.out C4) | exact Cb.cells C4 | exact Cb.cells C3 | exact Cb.cells C1 | go_keep)
          (first
            | (go_at_call 27; refine (HS.out _ ?h1 ?h2).mono ?_; (case h1 => first | exact T1.out | exact T1.out.keep (pw_below_drewN (Below.refl _ _) 1)); (case h2 => exact C1); rintro e w3 ⟨A3, c3, rfl, T3, O3, C3⟩)
            | (go_at_call 28; refine (HS2.out _ A3 c3 ?h1 ?h2 ?h3).mono ?_; (case h1 => first | exact T3.out | exact T3.out.keep (pw_below_drewN (Below.refl _ _) 1)); (case h2 => exact C3); (case h3 => exact O3.out); rintro e w4 ⟨A4, c4, rfl, T4, D3, D4, C4⟩)
            | (go_at_call 20; refine (HS3.out _ A3 A4 c3 c4 D3.out D4.out).mono ?_; rintro e w5 ⟨rfl, HB5⟩; have T5 := Lib.hid (T4.out.keep HB5.out)))
        have T9 := T5
        clear T5 HS HS2 HS3
        obtain ⟨m, hm⟩ : ∃ m, (nums (tickF x1 f)).length = m := ⟨_, rfl⟩
        have HM48 : Hid (m ≤ 48) := Lib.hid (by rw [← hm]; exact len48 _)
        have HMM := Lib.hid hm
        clear hm
        go_wp2_with fail
        refine (near_to T9.out.st _ rfl m HMM.out).mono ?_
        rintro e w5 ⟨A5, c5, rfl, HO5, _, HB5⟩
        have T10 := Lib.hid (T9.out.keep HB5.out)
        clear T9
        go_wp2_with fail
        refine (Numbers_calls w5 r (tickF x1 f) T10.out.rt _ rfl m HMM.out).mono ?_
        rintro e w6 ⟨A6, c6, rfl, HO6, HB6⟩
        have T11 := Lib.hid (T10.out.keep HB6.out)
        have HRD1 := Lib.hid ((row_rd HO5.out).2.below HB6.out)
        have HRD2 := Lib.hid (row_rd HO6.out).2
        clear T10 HO5 HO6 HB5 HB6
        go_wp2_with fail
        refine (Same_calls w6 A5 A6 m c5 c6 (nums (tickF x1 f)) HMM.out HM48.out HRD1.out HRD2.out).mono ?_
        rintro e w7 ⟨rfl, HB7⟩
        have T12 := Lib.hid (T11.out.keep HB7.out)
        clear T11 HRD1 HRD2 HB7
        go_wp2_with ((with_reducible refine gate_dst (N := 87) rfl ?_); refine wl_arr_load rfl rfl (by rfl) T12.out.rt ?_)
        go_loopw [88] (fun v88 wr2 => ∃ i : Nat, i ≤ 48 ∧ v88 = .int .i64 i ∧ Hid (Du w wr2 t b r (tickF x1 f) (tickF x1 f))) (fun v88 _ => 48 - (intOf v88).toNat)
        case atStart => exact ⟨0, by omega, rfl, T12⟩
        case round =>
          clear T12
          obtain ⟨wz, hwz⟩ : ∃ wz : World, wz = wr := ⟨wr, rfl⟩
          subst hwz
          obtain ⟨i, hi, rfl, TT⟩ := hrel
          by_cases hlt2 : i < 48
          · have hi1 : (i : Int) < 48 := by omega
            have HI := Lib.hid hlt2
            cases hf : (tickF x1 f) i with
            | none =>
              have HF := Lib.hid hf
              have HA : Hid (atF (tickF x1 f) i = none) := Lib.hid (by unfold atF; rw [if_pos (by omega), Int.toNat_natCast, hf])
              have hb0 : (wz.alloc (.cells #[.bool false, .int .i64 0, .int .i64 0] 50 (0, 0))).cell? ⟨wz.heap.size, 0, none⟩ = some (.bool false) := blk_cell (blk_new wz _) 0
              have hb1 : (wz.alloc (.cells #[.bool false, .int .i64 0, .int .i64 0] 50 (0, 0))).cell? ⟨wz.heap.size, 1, none⟩ = some (.int .i64 0) := blk_cell (blk_new wz _) 1
              have HB0 := Lib.hid hb0
              have HB1 := Lib.hid hb1
              clear hf hb0 hb1
              go_wp2_with ((with_reducible refine gate_dst (N := 91) rfl ?_); refine wl_arr_index (k := i) (f := (tickF x1 f)) rfl rfl (by rfl) (by rfl) HI.out ?_; rw [HF.out]; simp only [en])
              refine (age_to (TT.out.st.grew _) i (by omega) 0 false (by rw [HA.out]; rfl) (by rw [HA.out]; rfl)).mono ?_
              rintro e w8 ⟨rfl, S8, HB8⟩
              have hc0 := pw_cell_below HB8.out HB0.out
              have hc1 := pw_cell_below HB8.out HB1.out
              have T8 := Lib.hid ((TT.out.keep (below_alloc (Below.refl _ _) (.cells #[.bool false, .int .i64 0, .int .i64 0] 50 (0, 0)))).keep HB8.out)
              clear S8 HB8 HB0 HB1
              go_wp2_with fail
              go_roundw
              case rel => exact ⟨i + 1, by omega, by simp, T8⟩
              case measure => simp [intOf]; omega
            | some v =>
              obtain ⟨a, qt⟩ := v
              have HF := Lib.hid hf
              have HA : Hid (atF (tickF x1 f) i = some (a, qt)) := Lib.hid (by unfold atF; rw [if_pos (by omega), Int.toNat_natCast, hf])
              have hb0 : (wz.alloc (.cells #[.bool true, .int .i64 a, .int .i64 qt] 50 (0, 0))).cell? ⟨wz.heap.size, 0, none⟩ = some (.bool true) := blk_cell (blk_new wz _) 0
              have hb1 : (wz.alloc (.cells #[.bool true, .int .i64 a, .int .i64 qt] 50 (0, 0))).cell? ⟨wz.heap.size, 1, none⟩ = some (.int .i64 a) := blk_cell (blk_new wz _) 1
              have HB0 := Lib.hid hb0
              have HB1 := Lib.hid hb1
              clear hf hb0 hb1
              go_wp2_with ((with_reducible refine gate_dst (N := 91) rfl ?_); refine wl_arr_index (k := i) (f := (tickF x1 f)) rfl rfl (by rfl) (by rfl) HI.out ?_; rw [HF.out]; simp only [en])
              refine (age_to (TT.out.st.grew _) i (by omega) a true (by rw [HA.out]; rfl) (by rw [HA.out]; rfl)).mono ?_
              rintro e w8 ⟨rfl, S8, HB8⟩
              have hc0 := pw_cell_below HB8.out HB0.out
              have hc1 := pw_cell_below HB8.out HB1.out
              have T8 := Lib.hid ((TT.out.keep (below_alloc (Below.refl _ _) (.cells #[.bool true, .int .i64 a, .int .i64 qt] 50 (0, 0)))).keep HB8.out)
              clear S8 HB8 HB0 HB1
              go_wp2_with fail
              go_roundw
              case rel => exact ⟨i + 1, by omega, by simp, T8⟩
              case measure => simp [intOf]; omega
          · obtain rfl : i = 48 := by omega
            go_wp2_with fail
            go_roundw
            case rel => exact ⟨k + 1, _, by omega, by simp, TT⟩
            case measure => simp [intOf]; omega
      by_cases k2 : x0 = 2
      · subst k2
        by_cases hr0 : x1 < 0
        · have d1 : decide (0 ≤ x1) = false := decide_eq_false (by omega)
          have HDF : Hid (dropF f x1 = f) := Lib.hid (by unfold dropF; rw [if_neg (by omega)])
          clear hr0
          go_wp2_with ((with_reducible refine gate_dst (N := 28) rfl ?_); refine load_cells rfl rfl (ad := ad.add (k * 2)) (cs := [.int .i64 2, .int .i64 x1]) ?hx Try.underlying55 rfl (by kernel_rfl) HC.out ?_; (case hx => go_simp; done))
          have T1 : Hid (Du w (wr.alloc (.cells #[.int .i64 2, .int .i64 x1] 55 (0, 0))) t b r f f) := Lib.hid (T.out.keep (below_alloc (Below.refl _ _) _))
          have C1 : Cb (wr.alloc (.cells #[.int .i64 2, .int .i64 x1] 55 (0, 0))) wr.heap.size 2 x1 := blk_new wr _
          clear T
          generalize wr.alloc (.cells #[.int .i64 2, .int .i64 x1] 55 (0, 0)) = W at T1 C1 ⊢
          generalize wr.heap.size = q at C1 ⊢
          go_wp2_with fail
          refine (drop_to T1.out.st x1 HW.out _ rfl).mono ?_
          rintro e w2 ⟨rfl, S2, G2⟩
          have T9 : Hid (Du w w2 t b r f f) := Lib.hid (T1.out.left (by have := S2.out; rw [HDF.out] at this; exact this) G2.out)
          have C2 := C1.left T1.out G2.out
          have hc1 : w2.cell? ⟨q, 1, none⟩ = some (.int .i64 x1) := blk_cell C2 1
          clear S2 C1 C2 T1 G2
          obtain ⟨m, hm⟩ : ∃ m, (nums f).length = m := ⟨_, rfl⟩
          have HM48 : Hid (m ≤ 48) := Lib.hid (by rw [← hm]; exact len48 _)
          have HMM := Lib.hid hm
          clear hm
          go_wp2_with fail
          refine (near_to T9.out.st _ rfl m HMM.out).mono ?_
          rintro e w5 ⟨A5, c5, rfl, HO5, _, HB5⟩
          have T10 := Lib.hid (T9.out.keep HB5.out)
          clear T9
          go_wp2_with fail
          refine (Numbers_calls w5 r f T10.out.rt _ rfl m HMM.out).mono ?_
          rintro e w6 ⟨A6, c6, rfl, HO6, HB6⟩
          have T11 := Lib.hid (T10.out.keep HB6.out)
          have HRD1 := Lib.hid ((row_rd HO5.out).2.below HB6.out)
          have HRD2 := Lib.hid (row_rd HO6.out).2
          clear T10 HO5 HO6 HB5 HB6
          go_wp2_with fail
          refine (Same_calls w6 A5 A6 m c5 c6 (nums f) HMM.out HM48.out HRD1.out HRD2.out).mono ?_
          rintro e w7 ⟨rfl, HB7⟩
          have T12 := Lib.hid (T11.out.keep HB7.out)
          clear T11 HRD1 HRD2 HB7
          go_wp2_with ((with_reducible refine gate_dst (N := 87) rfl ?_); refine wl_arr_load rfl rfl (by rfl) T12.out.rt ?_)
          go_loopw [88] (fun v88 wr2 => ∃ i : Nat, i ≤ 48 ∧ v88 = .int .i64 i ∧ Hid (Du w wr2 t b r f f)) (fun v88 _ => 48 - (intOf v88).toNat)
          case atStart => exact ⟨0, by omega, rfl, T12⟩
          case round =>
            clear T12
            obtain ⟨wz, hwz⟩ : ∃ wz : World, wz = wr := ⟨wr, rfl⟩
            subst hwz
            obtain ⟨i, hi, rfl, TT⟩ := hrel
            by_cases hlt2 : i < 48
            · have hi1 : (i : Int) < 48 := by omega
              have HI := Lib.hid hlt2
              cases hf : f i with
              | none =>
                have HF := Lib.hid hf
                have HA : Hid (atF f i = none) := Lib.hid (by unfold atF; rw [if_pos (by omega), Int.toNat_natCast, hf])
                have hb0 : (wz.alloc (.cells #[.bool false, .int .i64 0, .int .i64 0] 50 (0, 0))).cell? ⟨wz.heap.size, 0, none⟩ = some (.bool false) := blk_cell (blk_new wz _) 0
                have hb1 : (wz.alloc (.cells #[.bool false, .int .i64 0, .int .i64 0] 50 (0, 0))).cell? ⟨wz.heap.size, 1, none⟩ = some (.int .i64 0) := blk_cell (blk_new wz _) 1
                have HB0 := Lib.hid hb0
                have HB1 := Lib.hid hb1
                clear hf hb0 hb1
                go_wp2_with ((with_reducible refine gate_dst (N := 91) rfl ?_); refine wl_arr_index (k := i) (f := f) rfl rfl (by rfl) (by rfl) HI.out ?_; rw [HF.out]; simp only [en])
                refine (age_to (TT.out.st.grew _) i (by omega) 0 false (by rw [HA.out]; rfl) (by rw [HA.out]; rfl)).mono ?_
                rintro e w8 ⟨rfl, S8, HB8⟩
                have hc0 := pw_cell_below HB8.out HB0.out
                have hc1 := pw_cell_below HB8.out HB1.out
                have T8 := Lib.hid ((TT.out.keep (below_alloc (Below.refl _ _) (.cells #[.bool false, .int .i64 0, .int .i64 0] 50 (0, 0)))).keep HB8.out)
                clear S8 HB8 HB0 HB1
                go_wp2_with fail
                go_roundw
                case rel => exact ⟨i + 1, by omega, by simp, T8⟩
                case measure => simp [intOf]; omega
              | some v =>
                obtain ⟨a, qt⟩ := v
                have HF := Lib.hid hf
                have HA : Hid (atF f i = some (a, qt)) := Lib.hid (by unfold atF; rw [if_pos (by omega), Int.toNat_natCast, hf])
                have hb0 : (wz.alloc (.cells #[.bool true, .int .i64 a, .int .i64 qt] 50 (0, 0))).cell? ⟨wz.heap.size, 0, none⟩ = some (.bool true) := blk_cell (blk_new wz _) 0
                have hb1 : (wz.alloc (.cells #[.bool true, .int .i64 a, .int .i64 qt] 50 (0, 0))).cell? ⟨wz.heap.size, 1, none⟩ = some (.int .i64 a) := blk_cell (blk_new wz _) 1
                have HB0 := Lib.hid hb0
                have HB1 := Lib.hid hb1
                clear hf hb0 hb1
                go_wp2_with ((with_reducible refine gate_dst (N := 91) rfl ?_); refine wl_arr_index (k := i) (f := f) rfl rfl (by rfl) (by rfl) HI.out ?_; rw [HF.out]; simp only [en])
                refine (age_to (TT.out.st.grew _) i (by omega) a true (by rw [HA.out]; rfl) (by rw [HA.out]; rfl)).mono ?_
                rintro e w8 ⟨rfl, S8, HB8⟩
                have hc0 := pw_cell_below HB8.out HB0.out
                have hc1 := pw_cell_below HB8.out HB1.out
                have T8 := Lib.hid ((TT.out.keep (below_alloc (Below.refl _ _) (.cells #[.bool true, .int .i64 a, .int .i64 qt] 50 (0, 0)))).keep HB8.out)
                clear S8 HB8 HB0 HB1
                go_wp2_with fail
                go_roundw
                case rel => exact ⟨i + 1, by omega, by simp, T8⟩
                case measure => simp [intOf]; omega
            · obtain rfl : i = 48 := by omega
              go_wp2_with fail
              go_roundw
              case rel => exact ⟨k + 1, _, by omega, by simp, TT⟩
              case measure => simp [intOf]; omega
        by_cases hr1 : x1 > 47
        · have d1 : decide (0 ≤ x1) = true := decide_eq_true (by omega)
          have d2 : decide (x1 ≤ 47) = false := decide_eq_false (by omega)
          have HDF : Hid (dropF f x1 = f) := Lib.hid (by unfold dropF; rw [if_neg (by omega)])
          clear hr0 hr1
          go_wp2_with ((with_reducible refine gate_dst (N := 28) rfl ?_); refine load_cells rfl rfl (ad := ad.add (k * 2)) (cs := [.int .i64 2, .int .i64 x1]) ?hx Try.underlying55 rfl (by kernel_rfl) HC.out ?_; (case hx => go_simp; done))
          have T1 : Hid (Du w (wr.alloc (.cells #[.int .i64 2, .int .i64 x1] 55 (0, 0))) t b r f f) := Lib.hid (T.out.keep (below_alloc (Below.refl _ _) _))
          have C1 : Cb (wr.alloc (.cells #[.int .i64 2, .int .i64 x1] 55 (0, 0))) wr.heap.size 2 x1 := blk_new wr _
          clear T
          generalize wr.alloc (.cells #[.int .i64 2, .int .i64 x1] 55 (0, 0)) = W at T1 C1 ⊢
          generalize wr.heap.size = q at C1 ⊢
          go_wp2_with fail
          refine (drop_to T1.out.st x1 HW.out _ rfl).mono ?_
          rintro e w2 ⟨rfl, S2, G2⟩
          have T9 : Hid (Du w w2 t b r f f) := Lib.hid (T1.out.left (by have := S2.out; rw [HDF.out] at this; exact this) G2.out)
          have C2 := C1.left T1.out G2.out
          have hc1 : w2.cell? ⟨q, 1, none⟩ = some (.int .i64 x1) := blk_cell C2 1
          clear S2 C1 C2 T1 G2
          obtain ⟨m, hm⟩ : ∃ m, (nums f).length = m := ⟨_, rfl⟩
          have HM48 : Hid (m ≤ 48) := Lib.hid (by rw [← hm]; exact len48 _)
          have HMM := Lib.hid hm
          clear hm
          go_wp2_with fail
          refine (near_to T9.out.st _ rfl m HMM.out).mono ?_
          rintro e w5 ⟨A5, c5, rfl, HO5, _, HB5⟩
          have T10 := Lib.hid (T9.out.keep HB5.out)
          clear T9
          go_wp2_with fail
          refine (Numbers_calls w5 r f T10.out.rt _ rfl m HMM.out).mono ?_
          rintro e w6 ⟨A6, c6, rfl, HO6, HB6⟩
          have T11 := Lib.hid (T10.out.keep HB6.out)
          have HRD1 := Lib.hid ((row_rd HO5.out).2.below HB6.out)
          have HRD2 := Lib.hid (row_rd HO6.out).2
          clear T10 HO5 HO6 HB5 HB6
          go_wp2_with fail
          refine (Same_calls w6 A5 A6 m c5 c6 (nums f) HMM.out HM48.out HRD1.out HRD2.out).mono ?_
          rintro e w7 ⟨rfl, HB7⟩
          have T12 := Lib.hid (T11.out.keep HB7.out)
          clear T11 HRD1 HRD2 HB7
          go_wp2_with ((with_reducible refine gate_dst (N := 87) rfl ?_); refine wl_arr_load rfl rfl (by rfl) T12.out.rt ?_)
          go_loopw [88] (fun v88 wr2 => ∃ i : Nat, i ≤ 48 ∧ v88 = .int .i64 i ∧ Hid (Du w wr2 t b r f f)) (fun v88 _ => 48 - (intOf v88).toNat)
          case atStart => exact ⟨0, by omega, rfl, T12⟩
          case round =>
            clear T12
            obtain ⟨wz, hwz⟩ : ∃ wz : World, wz = wr := ⟨wr, rfl⟩
            subst hwz
            obtain ⟨i, hi, rfl, TT⟩ := hrel
            by_cases hlt2 : i < 48
            · have hi1 : (i : Int) < 48 := by omega
              have HI := Lib.hid hlt2
              cases hf : f i with
              | none =>
                have HF := Lib.hid hf
                have HA : Hid (atF f i = none) := Lib.hid (by unfold atF; rw [if_pos (by omega), Int.toNat_natCast, hf])
                have hb0 : (wz.alloc (.cells #[.bool false, .int .i64 0, .int .i64 0] 50 (0, 0))).cell? ⟨wz.heap.size, 0, none⟩ = some (.bool false) := blk_cell (blk_new wz _) 0
                have hb1 : (wz.alloc (.cells #[.bool false, .int .i64 0, .int .i64 0] 50 (0, 0))).cell? ⟨wz.heap.size, 1, none⟩ = some (.int .i64 0) := blk_cell (blk_new wz _) 1
                have HB0 := Lib.hid hb0
                have HB1 := Lib.hid hb1
                clear hf hb0 hb1
                go_wp2_with ((with_reducible refine gate_dst (N := 91) rfl ?_); refine wl_arr_index (k := i) (f := f) rfl rfl (by rfl) (by rfl) HI.out ?_; rw [HF.out]; simp only [en])
                refine (age_to (TT.out.st.grew _) i (by omega) 0 false (by rw [HA.out]; rfl) (by rw [HA.out]; rfl)).mono ?_
                rintro e w8 ⟨rfl, S8, HB8⟩
                have hc0 := pw_cell_below HB8.out HB0.out
                have hc1 := pw_cell_below HB8.out HB1.out
                have T8 := Lib.hid ((TT.out.keep (below_alloc (Below.refl _ _) (.cells #[.bool false, .int .i64 0, .int .i64 0] 50 (0, 0)))).keep HB8.out)
                clear S8 HB8 HB0 HB1
                go_wp2_with fail
                go_roundw
                case rel => exact ⟨i + 1, by omega, by simp, T8⟩
                case measure => simp [intOf]; omega
              | some v =>
                obtain ⟨a, qt⟩ := v
                have HF := Lib.hid hf
                have HA : Hid (atF f i = some (a, qt)) := Lib.hid (by unfold atF; rw [if_pos (by omega), Int.toNat_natCast, hf])
                have hb0 : (wz.alloc (.cells #[.bool true, .int .i64 a, .int .i64 qt] 50 (0, 0))).cell? ⟨wz.heap.size, 0, none⟩ = some (.bool true) := blk_cell (blk_new wz _) 0
                have hb1 : (wz.alloc (.cells #[.bool true, .int .i64 a, .int .i64 qt] 50 (0, 0))).cell? ⟨wz.heap.size, 1, none⟩ = some (.int .i64 a) := blk_cell (blk_new wz _) 1
                have HB0 := Lib.hid hb0
                have HB1 := Lib.hid hb1
                clear hf hb0 hb1
                go_wp2_with ((with_reducible refine gate_dst (N := 91) rfl ?_); refine wl_arr_index (k := i) (f := f) rfl rfl (by rfl) (by rfl) HI.out ?_; rw [HF.out]; simp only [en])
                refine (age_to (TT.out.st.grew _) i (by omega) a true (by rw [HA.out]; rfl) (by rw [HA.out]; rfl)).mono ?_
                rintro e w8 ⟨rfl, S8, HB8⟩
                have hc0 := pw_cell_below HB8.out HB0.out
                have hc1 := pw_cell_below HB8.out HB1.out
                have T8 := Lib.hid ((TT.out.keep (below_alloc (Below.refl _ _) (.cells #[.bool true, .int .i64 a, .int .i64 qt] 50 (0, 0)))).keep HB8.out)
                clear S8 HB8 HB0 HB1
                go_wp2_with fail
                go_roundw
                case rel => exact ⟨i + 1, by omega, by simp, T8⟩
                case measure => simp [intOf]; omega
            · obtain rfl : i = 48 := by omega
              go_wp2_with fail
              go_roundw
              case rel => exact ⟨k + 1, _, by omega, by simp, TT⟩
              case measure => simp [intOf]; omega
        obtain ⟨kk, hkk⟩ : ∃ kk : Nat, x1 = kk := ⟨x1.toNat, by omega⟩
        subst hkk
        have hkk48 : kk < 48 := by omega
        have HKK := Lib.hid hkk48
        have d1 : decide (0 ≤ (kk : Int)) = true := decide_eq_true (by omega)
        have d2 : decide ((kk : Int) ≤ 47) = true := decide_eq_true (by omega)
        have d3 : (kk : Int) < 48 := by omega
        have d4 : (0 : Int) ≤ (kk : Int) := by omega
        have HDF : Hid (dropF f kk = upd f kk none) := Lib.hid (by unfold dropF; rw [if_pos (by omega), Int.toNat_natCast])
        clear hr0 hr1
        go_wp2_with ((with_reducible refine gate_dst (N := 28) rfl ?_); refine load_cells rfl rfl (ad := ad.add (k * 2)) (cs := [.int .i64 2, .int .i64 kk]) ?hx Try.underlying55 rfl (by kernel_rfl) HC.out ?_; (case hx => go_simp; done))
        have T1 : Hid (Du w (wr.alloc (.cells #[.int .i64 2, .int .i64 kk] 55 (0, 0))) t b r f f) := Lib.hid (T.out.keep (below_alloc (Below.refl _ _) _))
        have C1 : Cb (wr.alloc (.cells #[.int .i64 2, .int .i64 kk] 55 (0, 0))) wr.heap.size 2 kk := blk_new wr _
        clear T
        generalize wr.alloc (.cells #[.int .i64 2, .int .i64 kk] 55 (0, 0)) = W at T1 C1 ⊢
        generalize wr.heap.size = q at C1 ⊢
        go_wp2_with fail
        refine (drop_to T1.out.st kk HW.out _ rfl).mono ?_
        rintro e w2 ⟨rfl, S2, G2⟩
        have T2a : Hid (Du w w2 t b r (upd f kk none) f) := Lib.hid (T1.out.left (by have := S2.out; rw [HDF.out] at this; exact this) G2.out)
        have C2a := C1.left T1.out G2.out
        have hc1 : w2.cell? ⟨q, 1, none⟩ = some (.int .i64 kk) := blk_cell C2a 1
        clear S2 C1 T1 G2
        go_wp2_with fail
        have T2 : Hid (Du w w2.drew t b r (upd f kk none) f) := Lib.hid (T2a.out.keep (pw_below_drewN (Below.refl _ _) 1))
        have C2 : Cb w2.drew q 2 kk := C2a
        obtain ⟨hrun, hrt, hgr⟩ := put3 T2.out.rt HKK.out none
        have HRUN := Lib.hid hrun
        have HGR := Lib.hid hgr
        have T9 := Lib.hid (T2.out.right hrt hgr)
        clear hrun hrt hgr T2a hc1
        refine rl_start (fun W' => Cb W' q 2 kk) 8 (by kernel_rfl) rfl C2a (fun HS => ?_)
        clear C2a
        repeat (first
          | ((with_reducible refine rlg_load (ty := 3) rfl ?_); refine rl_cell (ad := ⟨q, 1, none⟩) (v := .int .i64 kk) rfl (by kernel_rfl) (fun _ _ _ h => h) (by rfl) HS (by rfl) Try.underlying3 rfl (fun W hW => blk_cell hW 1) ?_; (try simp only [Act.put, List.setIfInBounds_toArray, List.set_cons_zero, List.set_cons_succ, Nat.reduceAdd]))
          | (refine rl_store (pv := .pointer (some ⟨r, kk * 3, none⟩)) (val := .agg #[.bool false, .int .i64 0, .int .i64 0]) rfl (by kernel_rfl) (by rfl) (by rfl) (by rfl) HRUN.out (C2.right T2.out HGR.out) (fun H1 => ?_); clear HS; have HS := H1; clear H1; (try simp only [Act.put, List.setIfInBounds_toArray, List.set_cons_zero, List.set_cons_succ, Nat.reduceAdd]))
          | (refine rl_pureK (by kernel_rfl) (fun _ _ _ h => h) (by rfl) (fun W K hK => by go_simp; exact hK.out) ?_; (try simp only [Act.put, List.setIfInBounds_toArray, List.set_cons_zero, List.set_cons_succ, Nat.reduceAdd])))
        refine rl_done (by kernel_rfl) ?_
        clear HS C2 T2 HRUN HGR
        obtain ⟨m, hm⟩ : ∃ m, (nums (upd f kk none)).length = m := ⟨_, rfl⟩
        have HM48 : Hid (m ≤ 48) := Lib.hid (by rw [← hm]; exact len48 _)
        have HMM := Lib.hid hm
        clear hm
        go_wp2_with fail
        refine (near_to T9.out.st _ rfl m HMM.out).mono ?_
        rintro e w5 ⟨A5, c5, rfl, HO5, _, HB5⟩
        have T10 := Lib.hid (T9.out.keep HB5.out)
        clear T9
        go_wp2_with fail
        refine (Numbers_calls w5 r (upd f kk none) T10.out.rt _ rfl m HMM.out).mono ?_
        rintro e w6 ⟨A6, c6, rfl, HO6, HB6⟩
        have T11 := Lib.hid (T10.out.keep HB6.out)
        have HRD1 := Lib.hid ((row_rd HO5.out).2.below HB6.out)
        have HRD2 := Lib.hid (row_rd HO6.out).2
        clear T10 HO5 HO6 HB5 HB6
        go_wp2_with fail
        refine (Same_calls w6 A5 A6 m c5 c6 (nums (upd f kk none)) HMM.out HM48.out HRD1.out HRD2.out).mono ?_
        rintro e w7 ⟨rfl, HB7⟩
        have T12 := Lib.hid (T11.out.keep HB7.out)
        clear T11 HRD1 HRD2 HB7
        go_wp2_with ((with_reducible refine gate_dst (N := 87) rfl ?_); refine wl_arr_load rfl rfl (by rfl) T12.out.rt ?_)
        go_loopw [88] (fun v88 wr2 => ∃ i : Nat, i ≤ 48 ∧ v88 = .int .i64 i ∧ Hid (Du w wr2 t b r (upd f kk none) (upd f kk none))) (fun v88 _ => 48 - (intOf v88).toNat)
        case atStart => exact ⟨0, by omega, rfl, T12⟩
        case round =>
          clear T12
          obtain ⟨wz, hwz⟩ : ∃ wz : World, wz = wr := ⟨wr, rfl⟩
          subst hwz
          obtain ⟨i, hi, rfl, TT⟩ := hrel
          by_cases hlt2 : i < 48
          · have hi1 : (i : Int) < 48 := by omega
            have HI := Lib.hid hlt2
            cases hf : (upd f kk none) i with
            | none =>
              have HF := Lib.hid hf
              have HA : Hid (atF (upd f kk none) i = none) := Lib.hid (by unfold atF; rw [if_pos (by omega), Int.toNat_natCast, hf])
              have hb0 : (wz.alloc (.cells #[.bool false, .int .i64 0, .int .i64 0] 50 (0, 0))).cell? ⟨wz.heap.size, 0, none⟩ = some (.bool false) := blk_cell (blk_new wz _) 0
              have hb1 : (wz.alloc (.cells #[.bool false, .int .i64 0, .int .i64 0] 50 (0, 0))).cell? ⟨wz.heap.size, 1, none⟩ = some (.int .i64 0) := blk_cell (blk_new wz _) 1
              have HB0 := Lib.hid hb0
              have HB1 := Lib.hid hb1
              clear hf hb0 hb1
              go_wp2_with ((with_reducible refine gate_dst (N := 91) rfl ?_); refine wl_arr_index (k := i) (f := (upd f kk none)) rfl rfl (by rfl) (by rfl) HI.out ?_; rw [HF.out]; simp only [en])
              refine (age_to (TT.out.st.grew _) i (by omega) 0 false (by rw [HA.out]; rfl) (by rw [HA.out]; rfl)).mono ?_
              rintro e w8 ⟨rfl, S8, HB8⟩
              have hc0 := pw_cell_below HB8.out HB0.out
              have hc1 := pw_cell_below HB8.out HB1.out
              have T8 := Lib.hid ((TT.out.keep (below_alloc (Below.refl _ _) (.cells #[.bool false, .int .i64 0, .int .i64 0] 50 (0, 0)))).keep HB8.out)
              clear S8 HB8 HB0 HB1
              go_wp2_with fail
              go_roundw
              case rel => exact ⟨i + 1, by omega, by simp, T8⟩
              case measure => simp [intOf]; omega
            | some v =>
              obtain ⟨a, qt⟩ := v
              have HF := Lib.hid hf
              have HA : Hid (atF (upd f kk none) i = some (a, qt)) := Lib.hid (by unfold atF; rw [if_pos (by omega), Int.toNat_natCast, hf])
              have hb0 : (wz.alloc (.cells #[.bool true, .int .i64 a, .int .i64 qt] 50 (0, 0))).cell? ⟨wz.heap.size, 0, none⟩ = some (.bool true) := blk_cell (blk_new wz _) 0
              have hb1 : (wz.alloc (.cells #[.bool true, .int .i64 a, .int .i64 qt] 50 (0, 0))).cell? ⟨wz.heap.size, 1, none⟩ = some (.int .i64 a) := blk_cell (blk_new wz _) 1
              have HB0 := Lib.hid hb0
              have HB1 := Lib.hid hb1
              clear hf hb0 hb1
              go_wp2_with ((with_reducible refine gate_dst (N := 91) rfl ?_); refine wl_arr_index (k := i) (f := (upd f kk none)) rfl rfl (by rfl) (by rfl) HI.out ?_; rw [HF.out]; simp only [en])
              refine (age_to (TT.out.st.grew _) i (by omega) a true (by rw [HA.out]; rfl) (by rw [HA.out]; rfl)).mono ?_
              rintro e w8 ⟨rfl, S8, HB8⟩
              have hc0 := pw_cell_below HB8.out HB0.out
              have hc1 := pw_cell_below HB8.out HB1.out
              have T8 := Lib.hid ((TT.out.keep (below_alloc (Below.refl _ _) (.cells #[.bool true, .int .i64 a, .int .i64 qt] 50 (0, 0)))).keep HB8.out)
              clear S8 HB8 HB0 HB1
              go_wp2_with fail
              go_roundw
              case rel => exact ⟨i + 1, by omega, by simp, T8⟩
              case measure => simp [intOf]; omega
          · obtain rfl : i = 48 := by omega
            go_wp2_with fail
            go_roundw
            case rel => exact ⟨k + 1, _, by omega, by simp, TT⟩
            case measure => simp [intOf]; omega
      · have d0 : (x0 == 0) = false := beq_eq_false_iff_ne.mpr k0
        have d1 : (x0 == 1) = false := beq_eq_false_iff_ne.mpr k1
        have d2 : (x0 == 2) = false := beq_eq_false_iff_ne.mpr k2
        clear k0 k1 k2
        go_wp2_with ((with_reducible refine gate_dst (N := 28) rfl ?_); refine load_cells rfl rfl (ad := ad.add (k * 2)) (cs := [.int .i64 x0, .int .i64 x1]) ?hx Try.underlying55 rfl (by kernel_rfl) HC.out ?_; (case hx => go_simp; done))
        have T1 : Hid (Du w (wr.alloc (.cells #[.int .i64 x0, .int .i64 x1] 55 (0, 0))) t b r f f) := Lib.hid (T.out.keep (below_alloc (Below.refl _ _) _))
        have C1 : Cb (wr.alloc (.cells #[.int .i64 x0, .int .i64 x1] 55 (0, 0))) wr.heap.size x0 x1 := blk_new wr _
        clear T
        generalize wr.alloc (.cells #[.int .i64 x0, .int .i64 x1] 55 (0, 0)) = W at T1 C1 ⊢
        generalize wr.heap.size = q at C1 ⊢
        have T9 := T1
        clear T1
        obtain ⟨m, hm⟩ : ∃ m, (nums f).length = m := ⟨_, rfl⟩
        have HM48 : Hid (m ≤ 48) := Lib.hid (by rw [← hm]; exact len48 _)
        have HMM := Lib.hid hm
        clear hm
        go_wp2_with fail
        refine (near_to T9.out.st _ rfl m HMM.out).mono ?_
        rintro e w5 ⟨A5, c5, rfl, HO5, _, HB5⟩
        have T10 := Lib.hid (T9.out.keep HB5.out)
        clear T9
        go_wp2_with fail
        refine (Numbers_calls w5 r f T10.out.rt _ rfl m HMM.out).mono ?_
        rintro e w6 ⟨A6, c6, rfl, HO6, HB6⟩
        have T11 := Lib.hid (T10.out.keep HB6.out)
        have HRD1 := Lib.hid ((row_rd HO5.out).2.below HB6.out)
        have HRD2 := Lib.hid (row_rd HO6.out).2
        clear T10 HO5 HO6 HB5 HB6
        go_wp2_with fail
        refine (Same_calls w6 A5 A6 m c5 c6 (nums f) HMM.out HM48.out HRD1.out HRD2.out).mono ?_
        rintro e w7 ⟨rfl, HB7⟩
        have T12 := Lib.hid (T11.out.keep HB7.out)
        clear T11 HRD1 HRD2 HB7
        go_wp2_with ((with_reducible refine gate_dst (N := 87) rfl ?_); refine wl_arr_load rfl rfl (by rfl) T12.out.rt ?_)
        go_loopw [88] (fun v88 wr2 => ∃ i : Nat, i ≤ 48 ∧ v88 = .int .i64 i ∧ Hid (Du w wr2 t b r f f)) (fun v88 _ => 48 - (intOf v88).toNat)
        case atStart => exact ⟨0, by omega, rfl, T12⟩
        case round =>
          clear T12
          obtain ⟨wz, hwz⟩ : ∃ wz : World, wz = wr := ⟨wr, rfl⟩
          subst hwz
          obtain ⟨i, hi, rfl, TT⟩ := hrel
          by_cases hlt2 : i < 48
          · have hi1 : (i : Int) < 48 := by omega
            have HI := Lib.hid hlt2
            cases hf : f i with
            | none =>
              have HF := Lib.hid hf
              have HA : Hid (atF f i = none) := Lib.hid (by unfold atF; rw [if_pos (by omega), Int.toNat_natCast, hf])
              have hb0 : (wz.alloc (.cells #[.bool false, .int .i64 0, .int .i64 0] 50 (0, 0))).cell? ⟨wz.heap.size, 0, none⟩ = some (.bool false) := blk_cell (blk_new wz _) 0
              have hb1 : (wz.alloc (.cells #[.bool false, .int .i64 0, .int .i64 0] 50 (0, 0))).cell? ⟨wz.heap.size, 1, none⟩ = some (.int .i64 0) := blk_cell (blk_new wz _) 1
              have HB0 := Lib.hid hb0
              have HB1 := Lib.hid hb1
              clear hf hb0 hb1
              go_wp2_with ((with_reducible refine gate_dst (N := 91) rfl ?_); refine wl_arr_index (k := i) (f := f) rfl rfl (by rfl) (by rfl) HI.out ?_; rw [HF.out]; simp only [en])
              refine (age_to (TT.out.st.grew _) i (by omega) 0 false (by rw [HA.out]; rfl) (by rw [HA.out]; rfl)).mono ?_
              rintro e w8 ⟨rfl, S8, HB8⟩
              have hc0 := pw_cell_below HB8.out HB0.out
              have hc1 := pw_cell_below HB8.out HB1.out
              have T8 := Lib.hid ((TT.out.keep (below_alloc (Below.refl _ _) (.cells #[.bool false, .int .i64 0, .int .i64 0] 50 (0, 0)))).keep HB8.out)
              clear S8 HB8 HB0 HB1
              go_wp2_with fail
              go_roundw
              case rel => exact ⟨i + 1, by omega, by simp, T8⟩
              case measure => simp [intOf]; omega
            | some v =>
              obtain ⟨a, qt⟩ := v
              have HF := Lib.hid hf
              have HA : Hid (atF f i = some (a, qt)) := Lib.hid (by unfold atF; rw [if_pos (by omega), Int.toNat_natCast, hf])
              have hb0 : (wz.alloc (.cells #[.bool true, .int .i64 a, .int .i64 qt] 50 (0, 0))).cell? ⟨wz.heap.size, 0, none⟩ = some (.bool true) := blk_cell (blk_new wz _) 0
              have hb1 : (wz.alloc (.cells #[.bool true, .int .i64 a, .int .i64 qt] 50 (0, 0))).cell? ⟨wz.heap.size, 1, none⟩ = some (.int .i64 a) := blk_cell (blk_new wz _) 1
              have HB0 := Lib.hid hb0
              have HB1 := Lib.hid hb1
              clear hf hb0 hb1
              go_wp2_with ((with_reducible refine gate_dst (N := 91) rfl ?_); refine wl_arr_index (k := i) (f := f) rfl rfl (by rfl) (by rfl) HI.out ?_; rw [HF.out]; simp only [en])
              refine (age_to (TT.out.st.grew _) i (by omega) a true (by rw [HA.out]; rfl) (by rw [HA.out]; rfl)).mono ?_
              rintro e w8 ⟨rfl, S8, HB8⟩
              have hc0 := pw_cell_below HB8.out HB0.out
              have hc1 := pw_cell_below HB8.out HB1.out
              have T8 := Lib.hid ((TT.out.keep (below_alloc (Below.refl _ _) (.cells #[.bool true, .int .i64 a, .int .i64 qt] 50 (0, 0)))).keep HB8.out)
              clear S8 HB8 HB0 HB1
              go_wp2_with fail
              go_roundw
              case rel => exact ⟨i + 1, by omega, by simp, T8⟩
              case measure => simp [intOf]; omega
          · obtain rfl : i = 48 := by omega
            go_wp2_with fail
            go_roundw
            case rel => exact ⟨k + 1, _, by omega, by simp, TT⟩
            case measure => simp [intOf]; omega
    · obtain rfl : k = l0.length := by omega
      go_wp2_with (first
        | (go_at_call 29; refine (Drop_nil _ _).mono ?_; rintro e w5 ⟨rfl, rfl⟩)
        | (go_at_call 32; refine (Age_nil _ _).mono ?_; rintro e w5 ⟨rfl, rfl⟩)
        | (go_at_call 25; refine (Hear_nil _ _).mono ?_; rintro e w5 ⟨rfl, rfl⟩)
        | (go_at_call 27; refine (Tick_nil _ _).mono ?_; rintro e w5 ⟨rfl, rfl⟩)
        | (go_at_call 30; refine (Near_nil _).mono ?_; rintro e w5 ⟨rfl, rfl⟩))
      go_ret
      exact ⟨rfl, T.out.st.below⟩
end Go.Proofs.Ytcopnddmkmgihaa.Mb
