/- VoteHolds: the walk. -/
import Derived.Test.YtdabedknidkimaaDoorVo
namespace Go.Proofs.YtdabedknidkimaaDoor.Vt
open Go.RowKit Go.Proofs.YtdabedknidkimaaDoorW.PrintWords Go.Proofs.YtdabedknidkimaaDoorW.PrintLast Go.Proofs.YtdabedknidkimaaDoorW.PrintMore Go.Proofs.YtdabedknidkimaaDoorEv Go.Proofs.YtdabedknidkimaaDoor.X
set_option linter.unusedVariables false
set_option linter.unusedSimpArgs false
set_option maxRecDepth 100000 in
set_option maxHeartbeats 8000000 in
theorem clepsydralaw19_VoteHolds.calls (a0_0 a0_1 a0_2 a0_3 a0_4 a0_5 a0_6 a0_7 a0_8 a0_9 a0_10 a0_11 : Int) (A1 : Option Addr) (c1 : Nat) (l1 : List S37) (A2 : Option Addr) (c2 : Nat) (l2 : List S37) (a3 : Int) (A4 : Option Addr) (c4 : Nat) (l4 : List (List S37)) (a5 : Int) (w : World) (hr1 : Kd.C k37 w A1 l1.length l1) (hc1 : l1.length ≤ c1) (hr2 : Kd.C k37 w A2 l2.length l2) (hc2 : l2.length ≤ c2) (hr4 : Kd.C (Kd.slice 37 k37) w A4 l4.length l4) (hc4 : l4.length ≤ c4) (w0_0 : (Lit.int .i64 a0_0).wf = true) (w0_1 : (Lit.int .i64 a0_1).wf = true) (w0_2 : (Lit.int .i64 a0_2).wf = true) (w0_3 : (Lit.int .i64 a0_3).wf = true) (w0_4 : (Lit.int .i64 a0_4).wf = true) (w0_5 : (Lit.int .i64 a0_5).wf = true) (w0_6 : (Lit.int .i64 a0_6).wf = true) (w0_7 : (Lit.int .i64 a0_7).wf = true) (w0_8 : (Lit.int .i64 a0_8).wf = true) (w0_9 : (Lit.int .i64 a0_9).wf = true) (w0_10 : (Lit.int .i64 a0_10).wf = true) (w0_11 : (Lit.int .i64 a0_11).wf = true) (wf1 : WfT l1) (wf2 : WfT l2) (w3 : (Lit.int .i64 a3).wf = true) (wf4 : WfL l4) (w5 : (Lit.int .i64 a5).wf = true) (ht : Tb w) :
    Calls Tryd.prog 5 #[.agg #[.int .i64 a0_0, .int .i64 a0_1, .int .i64 a0_2, .int .i64 a0_3, .int .i64 a0_4, .int .i64 a0_5, .int .i64 a0_6, .int .i64 a0_7, .int .i64 a0_8, .int .i64 a0_9, .int .i64 a0_10, .int .i64 a0_11], .slice A1 l1.length c1, .slice A2 l2.length c2, .int .i64 a3, .slice A4 l4.length c4, .int .i64 a5] w fun e w' => e = .returned (.bool true) ∧ Below w.heap.size w w' := by
  have HPR : Hid (PR a0_1 #[.int .i64 a0_0, .int .i64 a0_1, .int .i64 a0_2, .int .i64 a0_3, .int .i64 a0_4, .int .i64 a0_5, .int .i64 a0_6, .int .i64 a0_7, .int .i64 a0_8, .int .i64 a0_9, .int .i64 a0_10, .int .i64 a0_11]) := Lib.hid ⟨a0_0, a0_2, a0_3, a0_4, a0_5, a0_6, a0_7, a0_8, a0_9, a0_10, a0_11, rfl⟩
  have HF64 := Lib.hid (wf64 w0_1)
  have H364 := Lib.hid (wf64 w3)
  have H564 := Lib.hid (wf64 w5)
  clear w0_0 w0_1 w0_2 w0_3 w0_4 w0_5 w0_6 w0_7 w0_8 w0_9 w0_10 w0_11 w3 w5
  generalize (#[.int .i64 a0_0, .int .i64 a0_1, .int .i64 a0_2, .int .i64 a0_3, .int .i64 a0_4, .int .i64 a0_5, .int .i64 a0_6, .int .i64 a0_7, .int .i64 a0_8, .int .i64 a0_9, .int .i64 a0_10, .int .i64 a0_11] : Array Value) = cs at HPR ⊢
  generalize a0_1 = F at HPR HF64
  have R1 := Lib.hid hr1
  have C1 := Lib.hid hc1
  have R2 := Lib.hid hr2
  have C2 := Lib.hid hc2
  have R4 := Lib.hid hr4
  have C4 := Lib.hid hc4
  have O1 := Lib.hid wf1
  have O2 := Lib.hid wf2
  have O4 := Lib.hid wf4
  have T := Lib.hid ht
  obtain ⟨n1, hn1⟩ : ∃ n, l1.length = n := ⟨_, rfl⟩
  obtain ⟨n2, hn2⟩ : ∃ n, l2.length = n := ⟨_, rfl⟩
  obtain ⟨n4, hn4⟩ : ∃ n, l4.length = n := ⟨_, rfl⟩
  have N1 := Lib.hid hn1
  have N2 := Lib.hid hn2
  have N4 := Lib.hid hn4
  rw [hn1, hn2, hn4]
  clear hr1 hc1 hr2 hc2 hr4 hc4 wf1 wf2 wf4 ht hn1 hn2 hn4
  go_enter Tryd.func5, Tryd.ntmps5
  go_wp2_with fail
  have HB0 : Hid (Below w.heap.size w (w.alloc (.cells cs 29 (0, 0)))) := Lib.hid (below_alloc (Below.refl _ _) _)
  have HK0 : Hid ((w.alloc (.cells cs 29 (0, 0))).heap[w.heap.size]? = some (.cells cs 29 (0, 0))) := Lib.hid (blk_new w _)
  generalize w.alloc (.cells cs 29 (0, 0)) = w0 at HB0 HK0 ⊢
  obtain ⟨pb, hpb⟩ : ∃ pb, w.heap.size = pb := ⟨_, rfl⟩
  have HPB := Lib.hid hpb
  rw [hpb] at HK0 ⊢
  clear hpb
  refine (alive_to w0 (T.out.below HB0.out)).mono ?_
  rintro e w1 ⟨rfl, B1⟩
  have BB := Lib.hid (HB0.out.trans (B1.out.mono HB0.out.size))
  have KB : Hid (w1.heap[pb]? = some (.cells cs 29 (0, 0))) := Lib.hid ((B1.out.block pb (blk_lt HK0.out)).trans HK0.out)
  clear HB0 HK0 B1
  go_wp2_with fail
  obtain ⟨r, hr⟩ : ∃ r, grt l1 l4 = r := ⟨_, rfl⟩
  have HR := Lib.hid hr
  refine (great_to A1 c1 l1 n1 A4 c4 l4 n4 _ (Kd.C_below R1.out BB.out) C1.out (Kd.C_below R4.out BB.out) C4.out N1.out N4.out r hr).mono ?_
  clear hr
  rintro e w2 ⟨rfl, B2⟩
  have BC := Lib.hid (BB.out.trans (B2.out.mono BB.out.size))
  have KC : Hid (w2.heap[pb]? = some (.cells cs 29 (0, 0))) := Lib.hid ((B2.out.block pb (blk_lt KB.out)).trans KB.out)
  clear BB KB B2
  cases r with
  | true =>
    go_wp2_with fail
    go_ret
    exact ⟨rfl, BC.out⟩
  | false =>
    go_wp2_with fail
    obtain ⟨r, hr⟩ : ∃ r, grt l2 [] = r := ⟨_, rfl⟩
    have HR2 := Lib.hid hr
    refine (great_to A2 c2 l2 n2 none 0 [] 0 _ (Kd.C_below R2.out BC.out) C2.out ⟨rfl, by decide, fun h => by simp at h⟩ (by simp) N2.out rfl r hr).mono ?_
    clear hr
    rintro e w3 ⟨rfl, B3⟩
    have BD := Lib.hid (BC.out.trans (B3.out.mono BC.out.size))
    have KD : Hid (w3.heap[pb]? = some (.cells cs 29 (0, 0))) := Lib.hid ((B3.out.block pb (blk_lt KC.out)).trans KC.out)
    clear BC KC B3
    have BC := BD
    clear BD
    have hF := HPR.out.cell KD.out
    cases r with
    | true =>
      go_wp2_with fail
      go_ret
      exact ⟨rfl, BC.out⟩
    | false =>
      by_cases h1 : F < 0
      · have d_h1 : decide (F < 0) = true := decide_eq_true h1
        clear h1
        go_wp2_with fail
        go_ret
        exact ⟨rfl, BC.out⟩
      have d_h1 : decide (F < 0) = false := decide_eq_false h1
      by_cases h2 : a3 ≤ F
      · have d_h2 : decide (a3 ≤ F) = true := decide_eq_true h2
        clear h2
        go_wp2_with fail
        go_ret
        exact ⟨rfl, BC.out⟩
      have d_h2 : decide (a3 ≤ F) = false := decide_eq_false h2
      by_cases h3 : 20 < a3
      · have d_h3 : decide (20 < a3) = true := decide_eq_true h3
        clear h3
        go_wp2_with fail
        go_ret
        exact ⟨rfl, BC.out⟩
      have d_h3 : decide (20 < a3) = false := decide_eq_false h3
      by_cases h4 : F < (n4 : Int)
      · have d_h4 : decide (F < (n4 : Int)) = true := decide_eq_true h4
        clear h4
        go_wp2_with fail
        go_ret
        exact ⟨rfl, BC.out⟩
      have d_h4 : decide (F < (n4 : Int)) = false := decide_eq_false h4
      by_cases h5 : 20 < (n4 : Int)
      · have d_h5 : decide (20 < (n4 : Int)) = true := decide_eq_true h5
        clear h5
        go_wp2_with fail
        go_ret
        exact ⟨rfl, BC.out⟩
      have d_h5 : decide (20 < (n4 : Int)) = false := decide_eq_false h5
      by_cases h6 : a5 < 0
      · have d_h6 : decide (a5 < 0) = true := decide_eq_true h6
        clear h6
        go_wp2_with fail
        go_ret
        exact ⟨rfl, BC.out⟩
      have d_h6 : decide (a5 < 0) = false := decide_eq_false h6
      by_cases h7 : (n4 : Int) < a5
      · have d_h7 : decide ((n4 : Int) < a5) = true := decide_eq_true h7
        clear h7
        go_wp2_with fail
        go_ret
        exact ⟨rfl, BC.out⟩
      have d_h7 : decide ((n4 : Int) < a5) = false := decide_eq_false h7
      obtain ⟨g, hg⟩ : ∃ g, gd l2 = g := ⟨_, rfl⟩
      have HG := Lib.hid hg
      have L2 : Hid (l2.length ≤ 4096) := Lib.hid (by have := (grt_own HR2.out).1; omega)
      have HPUR : Hid (0 ≤ F ∧ F < a3 ∧ a3 ≤ 20 ∧ (n4 : Int) ≤ F ∧ (n4 : Int) ≤ 20 ∧ 0 ≤ a5 ∧ a5 ≤ (n4 : Int)) := Lib.hid (by omega)
      clear hg h1 h2 h3 h4 h5 h6 h7
      go_wp2_with fail
      refine (good18_to A2 c2 l2 n2 N2.out _ (Kd.C_below R2.out BC.out) C2.out (by have := L2.out; omega) g HG.out).mono ?_
      rintro e w4 ⟨rfl, B4⟩
      have BD := Lib.hid (BC.out.trans (B4.out.mono BC.out.size))
      have KE : Hid (w4.heap[pb]? = some (.cells cs 29 (0, 0))) := Lib.hid ((B4.out.block pb (blk_lt KD.out)).trans KD.out)
      clear BC KD B4 hF
      have BC := BD
      clear BD
      cases g with
      | false =>
        go_wp2_with fail
        go_ret
        exact ⟨rfl, BC.out⟩
      | true =>
        obtain ⟨j, hj⟩ : ∃ j : Nat, a5 = j := ⟨a5.toNat, by have := HPUR.out; omega⟩
        obtain ⟨q, hq⟩ : ∃ q : Nat, a3 = q := ⟨a3.toNat, by have := HPUR.out; omega⟩
        subst hj hq
        clear d_h1 d_h2 d_h3 d_h4 d_h5 d_h6 d_h7
        have hjn : j ≤ n4 := by have := HPUR.out; omega
        have hn20 : n4 ≤ 20 := by have := HPUR.out; omega
        have hq20 : q ≤ 20 := by have := HPUR.out; omega
        have hjc : j ≤ c4 := by have := C4.out; have := N4.out; omega
        have hnc : n4 ≤ c4 := by have := C4.out; have := N4.out; omega
        obtain ⟨hs, htl, hsrc⟩ := tl_of (Kd.C_below R4.out BC.out)
        have HTL := Lib.hid htl
        have HSR := Lib.hid hsrc
        have HRV : Hid (TL w4 [.slice A2 n2 c2] [l2]) := Lib.hid (by rw [← N2.out]; exact TL.one C2.out (Kd.C_below R2.out BC.out))
        have HEM : Hid ((w4.alloc (.cells #[] 22 (0, 0))).ownsRow w4.heap.size 22 1 (.slice (some ⟨w4.heap.size, 0, none⟩) 0 0) 0 []) := Lib.hid ⟨by simp, .inr ⟨_, 0, #[], rfl, Nat.le_refl _, blk_new w4 _, Nat.le_refl _, by unfold maxLen; omega, rfl, rfl⟩⟩
        clear htl hsrc
        obtain ⟨i0, hi0, hz0, hz1, hz2⟩ := info_parts info22
        have HL1 : Hid ((hs.take j).length = j) := Lib.hid (by rw [List.length_take, HTL.out.1, N4.out]; omega)
        have HL2 : Hid ((hs.drop j).length = n4 - j) := Lib.hid (by rw [List.length_drop, HTL.out.1, N4.out])
        have HS1 : Hid (Src w4 A4 (hs.take j)) := Lib.hid (fun i u hu => HSR.out i u (by rw [List.getElem?_take] at hu; split at hu; exact hu; cases hu))
        rcases A4 with _ | ad
        · go_wp2_with (at_builtin; refine wl_ap rfl _ _ 25 rfl w4.heap.size 22 i0 (.slice none 0 0) 1 24 Tryd.underlying25 hi0 hz0 hz1 hz2 rfl (by decide) (.slice (some ⟨w4.heap.size, 0, none⟩) 0 0) 0 [] rfl ?ho none j _ (hs.take j) rfl (by rw [HL1.out]; omega) ?hn (TL.cells (HTL.out.take j)) (by unfold maxLen; omega) (by omega) (by simp) ?_; (case ho => exact HEM.out); (case hn => exact HS1.out.below (below_alloc (Below.refl _ _) _)); intro u5 w5 ho5 hb5; have HO5 := Lib.hid ho5; have HB5 := Lib.hid (((below_alloc (Below.refl w4.heap.size w4) _)).trans hb5); clear ho5 hb5)
          go_loopw [13, 14] (fun v13 v14 wr => ∃ (k : Nat) (u : Value), k ≤ q ∧ v14 = .int .i64 k ∧ u = v13 ∧ Hid (wr.ownsRow w4.heap.size 22 1 u (j + k) (hs.take j ++ List.replicate k (.slice A2 n2 c2))) ∧ Hid (Below w4.heap.size w4 wr)) (fun _ v14 _ => q - (intOf v14).toNat)
          case atStart => exact ⟨0, _, by omega, rfl, rfl, Lib.hid (by have := HO5.out; simpa using this), HB5⟩
          case round =>
            obtain ⟨k, u, hk, rfl, hu, HO, HB⟩ := hrel
            subst hu
            clear HO5 HB5
            by_cases hlt : k < q
            · have hk1 : (k : Int) < (q : Int) := by omega
              have hs1 : -9223372036854775808 ≤ (k : Int) + 1 := by omega
              have hs2 : (k : Int) + 1 ≤ 9223372036854775807 := by omega
              go_wp2_with (at_builtin; refine print_append_cells (w0 := w4) w4.heap.size rfl _ _ 25 22 (.slice none 0 0) 1 24 rfl Tryd.underlying25 info22 rfl (by decide) (by decide) u (j + k) (hs.take j ++ List.replicate k (.slice A2 n2 c2)) [.slice A2 n2 c2] rfl rfl rfl (by simp [Value.oneCell']) HO.out HB.out HB.out.size (by omega) ?_; intro u6 w6 ho6 hb6 _ _; have HO6 := Lib.hid ho6; have HB6 := Lib.hid hb6; clear ho6 hb6)
              go_roundw
              case rel => exact ⟨k + 1, u6, by omega, by simp, rfl, Lib.hid (by rw [List.replicate_succ', ← List.append_assoc]; exact HO6.out), HB6⟩
              case measure => simp [intOf]; omega
            · obtain rfl : k = q := by omega
              have HRL : Hid ((hs.take j ++ List.replicate k (Value.slice A2 n2 c2)).length = (j + k) * 1) := Lib.hid HO.out.1
              have HS2 : Hid (Src wr none (hs.drop j)) := Lib.hid (fun i u hu => by obtain ⟨ad, e, _⟩ := HSR.out (j + i) u (by rw [List.getElem?_drop] at hu; exact hu); cases e)
              go_wp2_with (first | (at_builtin; refine wl_ap rfl _ _ 25 rfl w4.heap.size 22 i0 (.slice none 0 0) 1 24 Tryd.underlying25 hi0 hz0 hz1 hz2 rfl (by decide) u (j + k) (hs.take j ++ List.replicate k (.slice A2 n2 c2)) rfl HO.out none (n4 - j) _ (hs.drop j) rfl (by rw [HL2.out]; omega) HS2.out (TL.cells (HTL.out.drop j)) (by unfold maxLen; omega) (by omega) HB.out.size ?_; intro u7 w7 ho7 hb7; have HO7 := Lib.hid ho7; have HB7 := Lib.hid (HB.out.trans hb7); have KG : Hid (w7.heap[pb]? = some (.cells cs 29 (0, 0))) := Lib.hid ((HB7.out.block pb (blk_lt KE.out)).trans KE.out); clear ho7 hb7) | ((with_reducible refine gate_dst (N := 88) rfl ?_); refine load_cells rfl rfl (ad := ⟨pb, 0, none⟩) (cs := cs.toList) ?hx Tryd.underlying29 rfl ?hs (PR.cells (F := F) KG.out) ?_; (case hx => first | rfl | (go_simp; done) | (go_simp; rfl)); (case hs => rw [Array.length_toList, HPR.out.size]; kernel_rfl)))
              have HTS : Hid (TL w7 (hs.take j ++ List.replicate k (.slice A2 n2 c2) ++ hs.drop j) (l4.take j ++ List.replicate k l2 ++ l4.drop j)) := Lib.hid ((((HTL.out.take j).append (HRV.out.rep k)).append (HTL.out.drop j)).below HB7.out)
              have HTN : Hid ((l4.take j ++ List.replicate k l2 ++ l4.drop j).length = j + k + (n4 - j)) := Lib.hid (by rw [← HTS.out.1, HO7.out.1, Nat.mul_one])
              obtain ⟨A7, c7, hu, hc7, hC7⟩ := tl_own (HTN.out ▸ HO7.out) HTS.out
              have HC7 := Lib.hid hC7
              subst hu
              have BG := Lib.hid (BC.out.trans (HB7.out.mono BC.out.size))
              have HAD := Lib.hid (holds_plain (F := F) (by have := HPUR.out; omega) l1 l4 l2 j k HG.out (by have := HPUR.out; omega) (by rw [N4.out]; have := HPUR.out; omega))
              have HOK : Hid (∀ t ∈ l4.take j ++ List.replicate k l2 ++ l4.drop j, okT t) := Lib.hid (fun t ht => by
                rcases List.mem_append.1 ht with ht | ht
                · rcases List.mem_append.1 ht with ht | ht
                  · exact okL HR.out O4.out t (List.mem_of_mem_take ht)
                  · rw [List.eq_of_mem_replicate ht]
                    exact ⟨L2.out, O2.out.ok⟩
                · exact okL HR.out O4.out t (List.mem_of_mem_drop ht))
              clear hC7 hc7 HO HB HB7
              rw [HTN.out]
              refine (adopt_pr HPR.out A1 c1 l1 n1 A7 c7 _ _ _ (Kd.C_below R1.out BG.out) HC7.out (T.out.below BG.out) (by have := (grt_own HR.out).1; omega) HOK.out (by rw [HTN.out]; have := HPUR.out; omega) N1.out HTN.out l2 true n2 HAD.out N2.out).mono ?_
              rintro e w8 ⟨A8, c8, rfl, HC8, HR8, _, B8⟩
              have BH := Lib.hid (BG.out.trans (B8.out.mono BG.out.size))
              go_wp2_with fail
              refine (tables_to' A8 c8 l2 n2 N2.out A2 c2 l2 n2 N2.out w8 HR8.out (N2.out ▸ HC8.out) (Kd.C_below R2.out BH.out) C2.out (by have := L2.out; omega) true (eqT_refl l2)).mono ?_
              rintro e w9 ⟨rfl, B9⟩
              go_wp2_with fail
              go_ret
              exact ⟨rfl, BH.out.trans (B9.out.mono BH.out.size)⟩
        · by_cases hjc2 : j = c4
          · subst hjc2
            go_wp2_with (at_builtin; refine wl_ap rfl _ _ 25 rfl w4.heap.size 22 i0 (.slice none 0 0) 1 24 Tryd.underlying25 hi0 hz0 hz1 hz2 rfl (by decide) (.slice (some ⟨w4.heap.size, 0, none⟩) 0 0) 0 [] rfl ?ho (some ad) j _ (hs.take j) rfl (by rw [HL1.out]; omega) ?hn (TL.cells (HTL.out.take j)) (by unfold maxLen; omega) (by omega) (by simp) ?_; (case ho => exact HEM.out); (case hn => exact HS1.out.below (below_alloc (Below.refl _ _) _)); intro u5 w5 ho5 hb5; have HO5 := Lib.hid ho5; have HB5 := Lib.hid (((below_alloc (Below.refl w4.heap.size w4) _)).trans hb5); clear ho5 hb5)
            go_loopw [13, 14] (fun v13 v14 wr => ∃ (k : Nat) (u : Value), k ≤ q ∧ v14 = .int .i64 k ∧ u = v13 ∧ Hid (wr.ownsRow w4.heap.size 22 1 u (j + k) (hs.take j ++ List.replicate k (.slice A2 n2 c2))) ∧ Hid (Below w4.heap.size w4 wr)) (fun _ v14 _ => q - (intOf v14).toNat)
            case atStart => exact ⟨0, _, by omega, rfl, rfl, Lib.hid (by have := HO5.out; simpa using this), HB5⟩
            case round =>
              obtain ⟨k, u, hk, rfl, hu, HO, HB⟩ := hrel
              subst hu
              clear HO5 HB5
              by_cases hlt : k < q
              · have hk1 : (k : Int) < (q : Int) := by omega
                have hs1 : -9223372036854775808 ≤ (k : Int) + 1 := by omega
                have hs2 : (k : Int) + 1 ≤ 9223372036854775807 := by omega
                go_wp2_with (at_builtin; refine print_append_cells (w0 := w4) w4.heap.size rfl _ _ 25 22 (.slice none 0 0) 1 24 rfl Tryd.underlying25 info22 rfl (by decide) (by decide) u (j + k) (hs.take j ++ List.replicate k (.slice A2 n2 c2)) [.slice A2 n2 c2] rfl rfl rfl (by simp [Value.oneCell']) HO.out HB.out HB.out.size (by omega) ?_; intro u6 w6 ho6 hb6 _ _; have HO6 := Lib.hid ho6; have HB6 := Lib.hid hb6; clear ho6 hb6)
                go_roundw
                case rel => exact ⟨k + 1, u6, by omega, by simp, rfl, Lib.hid (by rw [List.replicate_succ', ← List.append_assoc]; exact HO6.out), HB6⟩
                case measure => simp [intOf]; omega
              · obtain rfl : k = q := by omega
                have HRL : Hid ((hs.take j ++ List.replicate k (Value.slice A2 n2 c2)).length = (j + k) * 1) := Lib.hid HO.out.1
                have HS2 : Hid (Src wr (some ad) (hs.drop j)) := Lib.hid (fun i u hu => by have h1 := (List.getElem?_eq_some_iff.1 hu).1; have := HL2.out; omega)
                go_wp2_with (first | (at_builtin; refine wl_ap rfl _ _ 25 rfl w4.heap.size 22 i0 (.slice none 0 0) 1 24 Tryd.underlying25 hi0 hz0 hz1 hz2 rfl (by decide) u (j + k) (hs.take j ++ List.replicate k (.slice A2 n2 c2)) rfl HO.out (some ad) 0 _ (hs.drop j) rfl (by rw [HL2.out]; omega) HS2.out (TL.cells (HTL.out.drop j)) (by unfold maxLen; omega) (by omega) HB.out.size ?_; intro u7 w7 ho7 hb7; have HO7 := Lib.hid ho7; have HB7 := Lib.hid (HB.out.trans hb7); have KG : Hid (w7.heap[pb]? = some (.cells cs 29 (0, 0))) := Lib.hid ((HB7.out.block pb (blk_lt KE.out)).trans KE.out); clear ho7 hb7) | ((with_reducible refine gate_dst (N := 88) rfl ?_); refine load_cells rfl rfl (ad := ⟨pb, 0, none⟩) (cs := cs.toList) ?hx Tryd.underlying29 rfl ?hs (PR.cells (F := F) KG.out) ?_; (case hx => first | rfl | (go_simp; done) | (go_simp; rfl)); (case hs => rw [Array.length_toList, HPR.out.size]; kernel_rfl)))
                have HTS : Hid (TL w7 (hs.take j ++ List.replicate k (.slice A2 n2 c2) ++ hs.drop j) (l4.take j ++ List.replicate k l2 ++ l4.drop j)) := Lib.hid ((((HTL.out.take j).append (HRV.out.rep k)).append (HTL.out.drop j)).below HB7.out)
                have HTN : Hid ((l4.take j ++ List.replicate k l2 ++ l4.drop j).length = j + k + 0) := Lib.hid (by rw [← HTS.out.1, HO7.out.1, Nat.mul_one])
                obtain ⟨A7, c7, hu, hc7, hC7⟩ := tl_own (HTN.out ▸ HO7.out) HTS.out
                have HC7 := Lib.hid hC7
                subst hu
                have BG := Lib.hid (BC.out.trans (HB7.out.mono BC.out.size))
                have HAD := Lib.hid (holds_plain (F := F) (by have := HPUR.out; omega) l1 l4 l2 j k HG.out (by have := HPUR.out; omega) (by rw [N4.out]; have := HPUR.out; omega))
                have HOK : Hid (∀ t ∈ l4.take j ++ List.replicate k l2 ++ l4.drop j, okT t) := Lib.hid (fun t ht => by
                  rcases List.mem_append.1 ht with ht | ht
                  · rcases List.mem_append.1 ht with ht | ht
                    · exact okL HR.out O4.out t (List.mem_of_mem_take ht)
                    · rw [List.eq_of_mem_replicate ht]
                      exact ⟨L2.out, O2.out.ok⟩
                  · exact okL HR.out O4.out t (List.mem_of_mem_drop ht))
                clear hC7 hc7 HO HB HB7
                rw [HTN.out]
                refine (adopt_pr HPR.out A1 c1 l1 n1 A7 c7 _ _ _ (Kd.C_below R1.out BG.out) HC7.out (T.out.below BG.out) (by have := (grt_own HR.out).1; omega) HOK.out (by rw [HTN.out]; have := HPUR.out; omega) N1.out HTN.out l2 true n2 HAD.out N2.out).mono ?_
                rintro e w8 ⟨A8, c8, rfl, HC8, HR8, _, B8⟩
                have BH := Lib.hid (BG.out.trans (B8.out.mono BG.out.size))
                go_wp2_with fail
                refine (tables_to' A8 c8 l2 n2 N2.out A2 c2 l2 n2 N2.out w8 HR8.out (N2.out ▸ HC8.out) (Kd.C_below R2.out BH.out) C2.out (by have := L2.out; omega) true (eqT_refl l2)).mono ?_
                rintro e w9 ⟨rfl, B9⟩
                go_wp2_with fail
                go_ret
                exact ⟨rfl, BH.out.trans (B9.out.mono BH.out.size)⟩
          · have hjc3 : j < c4 := by omega
            have hjc4 : (j == c4) = false := beq_eq_false_iff_ne.2 hjc2
            clear hjc2
            go_wp2_with (at_builtin; refine wl_ap rfl _ _ 25 rfl w4.heap.size 22 i0 (.slice none 0 0) 1 24 Tryd.underlying25 hi0 hz0 hz1 hz2 rfl (by decide) (.slice (some ⟨w4.heap.size, 0, none⟩) 0 0) 0 [] rfl ?ho (some ad) j _ (hs.take j) rfl (by rw [HL1.out]; omega) ?hn (TL.cells (HTL.out.take j)) (by unfold maxLen; omega) (by omega) (by simp) ?_; (case ho => exact HEM.out); (case hn => exact HS1.out.below (below_alloc (Below.refl _ _) _)); intro u5 w5 ho5 hb5; have HO5 := Lib.hid ho5; have HB5 := Lib.hid (((below_alloc (Below.refl w4.heap.size w4) _)).trans hb5); clear ho5 hb5)
            go_loopw [13, 14] (fun v13 v14 wr => ∃ (k : Nat) (u : Value), k ≤ q ∧ v14 = .int .i64 k ∧ u = v13 ∧ Hid (wr.ownsRow w4.heap.size 22 1 u (j + k) (hs.take j ++ List.replicate k (.slice A2 n2 c2))) ∧ Hid (Below w4.heap.size w4 wr)) (fun _ v14 _ => q - (intOf v14).toNat)
            case atStart => exact ⟨0, _, by omega, rfl, rfl, Lib.hid (by have := HO5.out; simpa using this), HB5⟩
            case round =>
              obtain ⟨k, u, hk, rfl, hu, HO, HB⟩ := hrel
              subst hu
              clear HO5 HB5
              by_cases hlt : k < q
              · have hk1 : (k : Int) < (q : Int) := by omega
                have hs1 : -9223372036854775808 ≤ (k : Int) + 1 := by omega
                have hs2 : (k : Int) + 1 ≤ 9223372036854775807 := by omega
                go_wp2_with (at_builtin; refine print_append_cells (w0 := w4) w4.heap.size rfl _ _ 25 22 (.slice none 0 0) 1 24 rfl Tryd.underlying25 info22 rfl (by decide) (by decide) u (j + k) (hs.take j ++ List.replicate k (.slice A2 n2 c2)) [.slice A2 n2 c2] rfl rfl rfl (by simp [Value.oneCell']) HO.out HB.out HB.out.size (by omega) ?_; intro u6 w6 ho6 hb6 _ _; have HO6 := Lib.hid ho6; have HB6 := Lib.hid hb6; clear ho6 hb6)
                go_roundw
                case rel => exact ⟨k + 1, u6, by omega, by simp, rfl, Lib.hid (by rw [List.replicate_succ', ← List.append_assoc]; exact HO6.out), HB6⟩
                case measure => simp [intOf]; omega
              · obtain rfl : k = q := by omega
                have HRL : Hid ((hs.take j ++ List.replicate k (Value.slice A2 n2 c2)).length = (j + k) * 1) := Lib.hid HO.out.1
                have HS2 : Hid (Src wr (some (ad.add j)) (hs.drop j)) := Lib.hid (fun i u hu => by obtain ⟨ad0, e, h⟩ := HSR.out (j + i) u (by rw [List.getElem?_drop] at hu; exact hu); cases e; exact ⟨_, rfl, by rw [add_add]; exact pw_cell_below HB.out h⟩)
                go_wp2_with (first | (at_builtin; refine wl_ap rfl _ _ 25 rfl w4.heap.size 22 i0 (.slice none 0 0) 1 24 Tryd.underlying25 hi0 hz0 hz1 hz2 rfl (by decide) u (j + k) (hs.take j ++ List.replicate k (.slice A2 n2 c2)) rfl HO.out (some (ad.add j)) (n4 - j) _ (hs.drop j) rfl (by rw [HL2.out]; omega) HS2.out (TL.cells (HTL.out.drop j)) (by unfold maxLen; omega) (by omega) HB.out.size ?_; intro u7 w7 ho7 hb7; have HO7 := Lib.hid ho7; have HB7 := Lib.hid (HB.out.trans hb7); have KG : Hid (w7.heap[pb]? = some (.cells cs 29 (0, 0))) := Lib.hid ((HB7.out.block pb (blk_lt KE.out)).trans KE.out); clear ho7 hb7) | ((with_reducible refine gate_dst (N := 88) rfl ?_); refine load_cells rfl rfl (ad := ⟨pb, 0, none⟩) (cs := cs.toList) ?hx Tryd.underlying29 rfl ?hs (PR.cells (F := F) KG.out) ?_; (case hx => first | rfl | (go_simp; done) | (go_simp; rfl)); (case hs => rw [Array.length_toList, HPR.out.size]; kernel_rfl)))
                have HTS : Hid (TL w7 (hs.take j ++ List.replicate k (.slice A2 n2 c2) ++ hs.drop j) (l4.take j ++ List.replicate k l2 ++ l4.drop j)) := Lib.hid ((((HTL.out.take j).append (HRV.out.rep k)).append (HTL.out.drop j)).below HB7.out)
                have HTN : Hid ((l4.take j ++ List.replicate k l2 ++ l4.drop j).length = j + k + (n4 - j)) := Lib.hid (by rw [← HTS.out.1, HO7.out.1, Nat.mul_one])
                obtain ⟨A7, c7, hu, hc7, hC7⟩ := tl_own (HTN.out ▸ HO7.out) HTS.out
                have HC7 := Lib.hid hC7
                subst hu
                have BG := Lib.hid (BC.out.trans (HB7.out.mono BC.out.size))
                have HAD := Lib.hid (holds_plain (F := F) (by have := HPUR.out; omega) l1 l4 l2 j k HG.out (by have := HPUR.out; omega) (by rw [N4.out]; have := HPUR.out; omega))
                have HOK : Hid (∀ t ∈ l4.take j ++ List.replicate k l2 ++ l4.drop j, okT t) := Lib.hid (fun t ht => by
                  rcases List.mem_append.1 ht with ht | ht
                  · rcases List.mem_append.1 ht with ht | ht
                    · exact okL HR.out O4.out t (List.mem_of_mem_take ht)
                    · rw [List.eq_of_mem_replicate ht]
                      exact ⟨L2.out, O2.out.ok⟩
                  · exact okL HR.out O4.out t (List.mem_of_mem_drop ht))
                clear hC7 hc7 HO HB HB7
                rw [HTN.out]
                refine (adopt_pr HPR.out A1 c1 l1 n1 A7 c7 _ _ _ (Kd.C_below R1.out BG.out) HC7.out (T.out.below BG.out) (by have := (grt_own HR.out).1; omega) HOK.out (by rw [HTN.out]; have := HPUR.out; omega) N1.out HTN.out l2 true n2 HAD.out N2.out).mono ?_
                rintro e w8 ⟨A8, c8, rfl, HC8, HR8, _, B8⟩
                have BH := Lib.hid (BG.out.trans (B8.out.mono BG.out.size))
                go_wp2_with fail
                refine (tables_to' A8 c8 l2 n2 N2.out A2 c2 l2 n2 N2.out w8 HR8.out (N2.out ▸ HC8.out) (Kd.C_below R2.out BH.out) C2.out (by have := L2.out; omega) true (eqT_refl l2)).mono ?_
                rintro e w9 ⟨rfl, B9⟩
                go_wp2_with fail
                go_ret
                exact ⟨rfl, BH.out.trans (B9.out.mono BH.out.size)⟩
end Go.Proofs.YtdabedknidkimaaDoor.Vt
