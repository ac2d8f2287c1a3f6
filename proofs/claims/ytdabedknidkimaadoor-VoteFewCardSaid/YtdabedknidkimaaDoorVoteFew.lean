/- VoteFew: the walk. -/
import Derived.Test.YtdabedknidkimaaDoorVn
namespace Go.Proofs.YtdabedknidkimaaDoor.Vt
open Go.RowKit Go.Proofs.YtdabedknidkimaaDoorW.PrintWords Go.Proofs.YtdabedknidkimaaDoorW.PrintLast Go.Proofs.YtdabedknidkimaaDoorW.PrintMore Go.Proofs.YtdabedknidkimaaDoorEv Go.Proofs.YtdabedknidkimaaDoor.X
set_option linter.unusedVariables false
set_option linter.unusedSimpArgs false
set_option maxRecDepth 100000 in
set_option maxHeartbeats 8000000 in
theorem clepsydralaw19_VoteFew.calls (a0_0 a0_1 a0_2 a0_3 a0_4 a0_5 a0_6 a0_7 a0_8 a0_9 a0_10 a0_11 : Int) (A1 : Option Addr) (c1 : Nat) (l1 : List S37) (A2 : Option Addr) (c2 : Nat) (l2 : List (List S37)) (w : World) (hr1 : Kd.C k37 w A1 l1.length l1) (hc1 : l1.length ≤ c1) (hr2 : Kd.C (Kd.slice 37 k37) w A2 l2.length l2) (hc2 : l2.length ≤ c2) (w0_0 : (Lit.int .i64 a0_0).wf = true) (w0_1 : (Lit.int .i64 a0_1).wf = true) (w0_2 : (Lit.int .i64 a0_2).wf = true) (w0_3 : (Lit.int .i64 a0_3).wf = true) (w0_4 : (Lit.int .i64 a0_4).wf = true) (w0_5 : (Lit.int .i64 a0_5).wf = true) (w0_6 : (Lit.int .i64 a0_6).wf = true) (w0_7 : (Lit.int .i64 a0_7).wf = true) (w0_8 : (Lit.int .i64 a0_8).wf = true) (w0_9 : (Lit.int .i64 a0_9).wf = true) (w0_10 : (Lit.int .i64 a0_10).wf = true) (w0_11 : (Lit.int .i64 a0_11).wf = true) (wf1 : WfT l1) (wf2 : WfL l2) (ht : Tb w) :
    Calls Tryd.prog 7 #[.agg #[.int .i64 a0_0, .int .i64 a0_1, .int .i64 a0_2, .int .i64 a0_3, .int .i64 a0_4, .int .i64 a0_5, .int .i64 a0_6, .int .i64 a0_7, .int .i64 a0_8, .int .i64 a0_9, .int .i64 a0_10, .int .i64 a0_11], .slice A1 l1.length c1, .slice A2 l2.length c2] w fun e w' => e = .returned (.bool true) ∧ Below w.heap.size w w' := by
  have HPR : Hid (PR a0_1 #[.int .i64 a0_0, .int .i64 a0_1, .int .i64 a0_2, .int .i64 a0_3, .int .i64 a0_4, .int .i64 a0_5, .int .i64 a0_6, .int .i64 a0_7, .int .i64 a0_8, .int .i64 a0_9, .int .i64 a0_10, .int .i64 a0_11]) := Lib.hid ⟨a0_0, a0_2, a0_3, a0_4, a0_5, a0_6, a0_7, a0_8, a0_9, a0_10, a0_11, rfl⟩
  have HF64 := Lib.hid (wf64 w0_1)
  clear w0_0 w0_1 w0_2 w0_3 w0_4 w0_5 w0_6 w0_7 w0_8 w0_9 w0_10 w0_11
  generalize (#[.int .i64 a0_0, .int .i64 a0_1, .int .i64 a0_2, .int .i64 a0_3, .int .i64 a0_4, .int .i64 a0_5, .int .i64 a0_6, .int .i64 a0_7, .int .i64 a0_8, .int .i64 a0_9, .int .i64 a0_10, .int .i64 a0_11] : Array Value) = cs at HPR ⊢
  generalize a0_1 = F at HPR HF64
  have R1 := Lib.hid hr1
  have C1 := Lib.hid hc1
  have R2 := Lib.hid hr2
  have C2 := Lib.hid hc2
  have O1 := Lib.hid wf1
  have O2 := Lib.hid wf2
  have T := Lib.hid ht
  obtain ⟨n1, hn1⟩ : ∃ n, l1.length = n := ⟨_, rfl⟩
  obtain ⟨n2, hn2⟩ : ∃ n, l2.length = n := ⟨_, rfl⟩
  have N1 := Lib.hid hn1
  have N2 := Lib.hid hn2
  rw [hn1, hn2]
  clear hr1 hc1 hr2 hc2 wf1 wf2 ht hn1 hn2
  go_enter Tryd.func7, Tryd.ntmps7
  go_wp2_with fail
  have HB0 : Hid (Below w.heap.size w (w.alloc (.cells cs 29 (0, 0)))) := Lib.hid (below_alloc (Below.refl _ _) _)
  have HK0 : Hid ((w.alloc (.cells cs 29 (0, 0))).heap[w.heap.size]? = some (.cells cs 29 (0, 0))) := Lib.hid (blk_new w _)
  generalize w.alloc (.cells cs 29 (0, 0)) = w0 at HB0 HK0 ⊢
  obtain ⟨pb, hpb⟩ : ∃ pb, w.heap.size = pb := ⟨_, rfl⟩
  have HPB := Lib.hid hpb
  rw [hpb] at HK0 ⊢
  clear hpb
  refine (alive_to w0 (T.out.below HB0.out)).mono ?_
  rintro e w1 ⟨rfl, B1⟩
  have BB := Lib.hid (HB0.out.trans (B1.out.mono HB0.out.size))
  have KB : Hid (w1.heap[pb]? = some (.cells cs 29 (0, 0))) := Lib.hid ((B1.out.block pb (blk_lt HK0.out)).trans HK0.out)
  clear HB0 HK0 B1
  go_wp2_with fail
  have hF := HPR.out.cell KB.out
  obtain ⟨r, hr⟩ : ∃ r, grt l1 l2 = r := ⟨_, rfl⟩
  have HR := Lib.hid hr
  refine (great_to A1 c1 l1 n1 A2 c2 l2 n2 _ (Kd.C_below R1.out BB.out) C1.out (Kd.C_below R2.out BB.out) C2.out N1.out N2.out r hr).mono ?_
  clear hr
  rintro e w2 ⟨rfl, B2⟩
  have BC := Lib.hid (BB.out.trans (B2.out.mono BB.out.size))
  have KC : Hid (w2.heap[pb]? = some (.cells cs 29 (0, 0))) := Lib.hid ((B2.out.block pb (blk_lt KB.out)).trans KB.out)
  clear BB KB B2
  have hF := HPR.out.cell KC.out
  cases r with
  | true =>
    go_wp2_with fail
    go_ret
    exact ⟨rfl, BC.out⟩
  | false =>
    by_cases hneg : F < 0
    · have d0 : decide (F < 0) = true := decide_eq_true hneg
      go_wp2_with fail
      go_ret
      exact ⟨rfl, BC.out⟩
    · have d0 : decide (F < 0) = false := decide_eq_false hneg
      have HF0 : Hid (0 ≤ F) := Lib.hid (by omega)
      clear hneg hF
      have K1 : Hid (l1.length ≤ 4096) := Lib.hid (by have := (grt_own HR.out).1; omega)
      have KL := Lib.hid (okL HR.out O2.out)
      have KS := Lib.hid (small_of HR.out)
      have HA0 : Hid (adoptP F l1 [] = (l1, false)) := Lib.hid (by
        rcases adopt_doc F HF0.out l1 [] with ⟨_, h⟩ | ⟨a, ha, _⟩
        · exact h
        · exact absurd ha (by simp))
      have hF := HPR.out.cell KC.out
      go_wp2_with ((with_reducible refine gate_dst (N := 25) rfl ?_); refine load_cells rfl rfl (ad := ⟨pb, 0, none⟩) (cs := cs.toList) ?hx Tryd.underlying29 rfl ?hs (PR.cells (F := F) KC.out) ?_; (case hx => first | rfl | (go_simp; done) | (go_simp; rfl)); (case hs => rw [Array.length_toList, HPR.out.size]; kernel_rfl))
      clear hF
      refine (adopt_pr HPR.out A1 c1 l1 n1 none 0 [] 0 _ (Kd.C_below R1.out BC.out) ⟨rfl, by decide, fun h => by simp at h⟩ (T.out.below BC.out) K1.out (fun t ht => by cases ht) (by simp) N1.out rfl l1 false n1 HA0.out N1.out).mono ?_
      rintro e w3 ⟨A3, c3, rfl, HC3, HR3, _, B3⟩
      have BD := Lib.hid (BC.out.trans (B3.out.mono BC.out.size))
      have KD : Hid (w3.heap[pb]? = some (.cells cs 29 (0, 0))) := Lib.hid ((B3.out.block pb (blk_lt KC.out)).trans KC.out)
      clear BC KC B3
      go_wp2_with fail
      refine (tables_to' A3 c3 l1 n1 N1.out A1 c1 l1 n1 N1.out w3 HR3.out (N1.out ▸ HC3.out) (Kd.C_below R1.out BD.out) C1.out (by have := K1.out; omega) true (eqT_refl l1)).mono ?_
      rintro e w4 ⟨rfl, B4⟩
      have BE := Lib.hid (BD.out.trans (B4.out.mono BD.out.size))
      have KE : Hid (w4.heap[pb]? = some (.cells cs 29 (0, 0))) := Lib.hid ((B4.out.block pb (blk_lt KD.out)).trans KD.out)
      clear BD KD B4 HR3 HC3
      go_wp2_with ((with_reducible refine gate_dst (N := 38) rfl ?_); refine load_cells rfl rfl (ad := ⟨pb, 0, none⟩) (cs := cs.toList) ?hx Tryd.underlying29 rfl ?hs (PR.cells (F := F) KE.out) ?_; (case hx => first | rfl | (go_simp; done) | (go_simp; rfl)); (case hs => rw [Array.length_toList, HPR.out.size]; kernel_rfl))
      obtain ⟨l, hl⟩ : ∃ l, (adoptP F l1 l2).1 = l := ⟨_, rfl⟩
      obtain ⟨b, hb⟩ : ∃ b, (adoptP F l1 l2).2 = b := ⟨_, rfl⟩
      have HA : Hid (adoptP F l1 l2 = (l, b)) := Lib.hid (by rw [← hl, ← hb])
      obtain ⟨m, hm⟩ : ∃ m, l.length = m := ⟨_, rfl⟩
      have HM := Lib.hid hm
      clear hl hb hm
      refine (adopt_pr HPR.out A1 c1 l1 n1 A2 c2 l2 n2 _ (Kd.C_below R1.out BE.out) (Kd.C_below R2.out BE.out) (T.out.below BE.out) K1.out KL.out KS.out.1 N1.out N2.out l b m HA.out HM.out).mono ?_
      rintro e w5 ⟨A5, c5, rfl, HC5, HR5, _, B5⟩
      have BF := Lib.hid (BE.out.trans (B5.out.mono BE.out.size))
      have KF : Hid (w5.heap[pb]? = some (.cells cs 29 (0, 0))) := Lib.hid ((B5.out.block pb (blk_lt KE.out)).trans KE.out)
      clear BE KE B5
      have HSM : Hid (n2 ≤ 4096) := Lib.hid (N2.out ▸ KS.out.1)
      have hsm := HSM.out
      have HWB := Lib.hid (Below.refl w5.heap.size w5)
      go_wp2_with fail
      go_loopw [11, 46] (fun v11 v46 wr => ∃ k q : Nat, k ≤ n2 ∧ q ≤ k ∧ v46 = .int .i64 k ∧ v11 = .int .i64 q ∧ Hid (q = cntT (l2.take k) l) ∧ Hid (Below w5.heap.size w5 wr)) (fun _ v46 _ => n2 - (intOf v46).toNat)
      case atStart => exact ⟨0, 0, by omega, by omega, rfl, rfl, Lib.hid (by simp [cntT]), HWB⟩
      case round =>
        obtain ⟨k, q, hk, hqk, rfl, rfl, HQ, HB⟩ := hrel
        by_cases hlt : k < n2
        · have hkl : k < l2.length := by rw [N2.out]; exact hlt
          have hk1 : (k : Int) < (n2 : Int) := by omega
          have hs1 : -9223372036854775808 ≤ (k : Int) + 1 := by omega
          have hs2 : (k : Int) + 1 ≤ 9223372036854775807 := by omega
          have hs3 : -9223372036854775808 ≤ (q : Int) + 1 := by omega
          have hs4 : (q : Int) + 1 ≤ 9223372036854775807 := by omega
          obtain ⟨ad, A0, c0, e, hcell, hlc, hC⟩ := in_tab R2.out (BF.out.trans (HB.out.mono BF.out.size)) k hkl
          cases e
          have HLC := Lib.hid hlc
          have HCC := Lib.hid hC
          have HLT : Hid (l2[k].length ≤ 4611686018427387904) := Lib.hid (by have := (KL.out _ (List.getElem_mem hkl)).1; omega)
          have HTK : Hid (l2.take (k + 1) = l2.take k ++ [l2[k]]) := Lib.hid (List.take_succ_eq_append_getElem hkl)
          obtain ⟨x, hx⟩ : ∃ x, l2[k] = x := ⟨_, rfl⟩
          obtain ⟨nx, hnx⟩ : ∃ nx, x.length = nx := ⟨_, rfl⟩
          have HNX := Lib.hid hnx
          rw [hx] at HLC HCC HLT HTK hcell
          rw [hnx] at hcell
          obtain ⟨g, hg⟩ : ∃ g, eqT x l = g := ⟨_, rfl⟩
          have HG := Lib.hid hg
          clear hC hlc hx hnx hg
          go_wp2_with fail
          refine (tables_to' A0 c0 x nx HNX.out A5 c5 l m HM.out _ HCC.out HLC.out (Kd.C_below HR5.out HB.out) (HM.out ▸ HC5.out) HLT.out g HG.out).mono ?_
          rintro e w6 ⟨rfl, B6⟩
          have HB6 := Lib.hid (HB.out.trans (B6.out.mono HB.out.size))
          have HQ' : Hid (cntT (l2.take (k + 1)) l = q + if g = true then 1 else 0) := Lib.hid (by
            rw [HTK.out, HQ.out]
            unfold cntT
            rw [List.filter_append, List.length_append, List.filter_cons, eqT_symm, HG.out]
            cases g <;> rfl)
          clear B6 HB HG HQ HCC HLC hcell
          cases g with
          | true =>
            go_wp2_with fail
            go_roundw
            case rel => exact ⟨k + 1, q + 1, by omega, by omega, by simp, by simp, Lib.hid HQ'.out.symm, HB6⟩
            case measure => simp [intOf]; omega
          | false =>
            go_wp2_with fail
            go_roundw
            case rel => exact ⟨k + 1, q, by omega, by omega, by simp, by simp, Lib.hid HQ'.out.symm, HB6⟩
            case measure => simp [intOf]; omega
        · obtain rfl : k = n2 := by omega
          have HQ2 : Hid (q = cntT l2 l) := Lib.hid (by rw [HQ.out, List.take_of_length_le (by rw [N2.out]; exact Nat.le_refl _)])
          have BG := Lib.hid (BF.out.trans (HB.out.mono BF.out.size))
          have HR6 := Lib.hid (Kd.C_below HR5.out HB.out)
          have hF := HPR.out.cell ((HB.out.block pb (blk_lt KF.out)).trans KF.out)
          cases b with
          | false =>
            have HE := Lib.hid (adopt_own HA.out)
            have HNM : Hid (m = n1) := Lib.hid (by rw [← HM.out, HE.out, N1.out])
            go_wp2_with fail
            refine (tables_to' A5 c5 l m HM.out A1 c1 l1 n1 N1.out _ HR6.out (HM.out ▸ HC5.out) (Kd.C_below R1.out BG.out) C1.out (by rw [HE.out]; have := K1.out; omega) true (by rw [HE.out]; exact eqT_refl l1)).mono ?_
            rintro e w7 ⟨rfl, B7⟩
            go_wp2_with fail
            go_ret
            exact ⟨rfl, BG.out.trans (B7.out.mono BG.out.size)⟩
          | true =>
            have HE := Lib.hid (adopt_good HA.out)
            have dn : decide (F < (q : Int)) = true := decide_eq_true (by rw [HQ2.out]; exact HE.out.2)
            have HLL : Hid (l.length ≤ 4611686018427387904) := Lib.hid (by
              rcases adopt_doc F HF0.out l1 l2 with ⟨_, h⟩ | ⟨a, ha, _, h⟩
              · rw [HA.out] at h; exact absurd (Prod.mk.inj h).2 (by decide)
              · rw [HA.out] at h
                rw [(Prod.mk.inj h).1]
                have := (KL.out _ (List.getElem_mem ha)).1
                omega)
            go_wp2_with fail
            refine (good18_to A5 c5 l m HM.out _ HR6.out (HM.out ▸ HC5.out) HLL.out true HE.out.1).mono ?_
            rintro e w7 ⟨rfl, B7⟩
            go_wp2_with fail
            go_ret
            exact ⟨rfl, BG.out.trans (B7.out.mono BG.out.size)⟩
end Go.Proofs.YtdabedknidkimaaDoor.Vt
