/- VoteAdopts: the walk. -/
import Derived.Test.YtdabedknidkimaaDoorVn
namespace Go.Proofs.YtdabedknidkimaaDoor.Vt
open Go.RowKit Go.Proofs.YtdabedknidkimaaDoorW.PrintWords Go.Proofs.YtdabedknidkimaaDoorW.PrintLast Go.Proofs.YtdabedknidkimaaDoorW.PrintMore Go.Proofs.YtdabedknidkimaaDoorEv Go.Proofs.YtdabedknidkimaaDoor.X
set_option linter.unusedVariables false
set_option linter.unusedSimpArgs false
set_option maxRecDepth 100000 in
set_option maxHeartbeats 8000000 in
theorem clepsydralaw19_VoteAdopts.calls (a0_0 a0_1 a0_2 a0_3 a0_4 a0_5 a0_6 a0_7 a0_8 a0_9 a0_10 a0_11 : Int) (A1 : Option Addr) (c1 : Nat) (l1 : List S37) (A2 : Option Addr) (c2 : Nat) (l2 : List (List S37)) (w : World) (hr1 : Kd.C k37 w A1 l1.length l1) (hc1 : l1.length ≤ c1) (hr2 : Kd.C (Kd.slice 37 k37) w A2 l2.length l2) (hc2 : l2.length ≤ c2) (w0_0 : (Lit.int .i64 a0_0).wf = true) (w0_1 : (Lit.int .i64 a0_1).wf = true) (w0_2 : (Lit.int .i64 a0_2).wf = true) (w0_3 : (Lit.int .i64 a0_3).wf = true) (w0_4 : (Lit.int .i64 a0_4).wf = true) (w0_5 : (Lit.int .i64 a0_5).wf = true) (w0_6 : (Lit.int .i64 a0_6).wf = true) (w0_7 : (Lit.int .i64 a0_7).wf = true) (w0_8 : (Lit.int .i64 a0_8).wf = true) (w0_9 : (Lit.int .i64 a0_9).wf = true) (w0_10 : (Lit.int .i64 a0_10).wf = true) (w0_11 : (Lit.int .i64 a0_11).wf = true) (wf1 : WfT l1) (wf2 : WfL l2) (ht : Tb w) :
    Calls Tryd.prog 4 #[.agg #[.int .i64 a0_0, .int .i64 a0_1, .int .i64 a0_2, .int .i64 a0_3, .int .i64 a0_4, .int .i64 a0_5, .int .i64 a0_6, .int .i64 a0_7, .int .i64 a0_8, .int .i64 a0_9, .int .i64 a0_10, .int .i64 a0_11], .slice A1 l1.length c1, .slice A2 l2.length c2] w fun e w' => e = .returned (.bool true) ∧ Below w.heap.size w w' := by
  have HPR : Hid (PR a0_1 #[.int .i64 a0_0, .int .i64 a0_1, .int .i64 a0_2, .int .i64 a0_3, .int .i64 a0_4, .int .i64 a0_5, .int .i64 a0_6, .int .i64 a0_7, .int .i64 a0_8, .int .i64 a0_9, .int .i64 a0_10, .int .i64 a0_11]) := Lib.hid ⟨a0_0, a0_2, a0_3, a0_4, a0_5, a0_6, a0_7, a0_8, a0_9, a0_10, a0_11, rfl⟩
  have HF64 := Lib.hid (wf64 w0_1)
  clear w0_0 w0_1 w0_2 w0_3 w0_4 w0_5 w0_6 w0_7 w0_8 w0_9 w0_10 w0_11
  generalize (#[.int .i64 a0_0, .int .i64 a0_1, .int .i64 a0_2, .int .i64 a0_3, .int .i64 a0_4, .int .i64 a0_5, .int .i64 a0_6, .int .i64 a0_7, .int .i64 a0_8, .int .i64 a0_9, .int .i64 a0_10, .int .i64 a0_11] : Array Value) = cs at HPR ⊢
  generalize a0_1 = F at HPR HF64
  have R1 := Lib.hid hr1
  have C1 := Lib.hid hc1
  have R2 := Lib.hid hr2
  have C2 := Lib.hid hc2
  have O1 := Lib.hid wf1
  have O2 := Lib.hid wf2
  have T := Lib.hid ht
  obtain ⟨n1, hn1⟩ : ∃ n, l1.length = n := ⟨_, rfl⟩
  obtain ⟨n2, hn2⟩ : ∃ n, l2.length = n := ⟨_, rfl⟩
  have N1 := Lib.hid hn1
  have N2 := Lib.hid hn2
  rw [hn1, hn2]
  clear hr1 hc1 hr2 hc2 wf1 wf2 ht hn1 hn2
  go_enter Tryd.func4, Tryd.ntmps4
  go_wp2_with fail
  have HB0 : Hid (Below w.heap.size w (w.alloc (.cells cs 29 (0, 0)))) := Lib.hid (below_alloc (Below.refl _ _) _)
  have HK0 : Hid ((w.alloc (.cells cs 29 (0, 0))).heap[w.heap.size]? = some (.cells cs 29 (0, 0))) := Lib.hid (blk_new w _)
  generalize w.alloc (.cells cs 29 (0, 0)) = w0 at HB0 HK0 ⊢
  obtain ⟨pb, hpb⟩ : ∃ pb, w.heap.size = pb := ⟨_, rfl⟩
  have HPB := Lib.hid hpb
  rw [hpb] at HK0 ⊢
  clear hpb
  refine (alive_to w0 (T.out.below HB0.out)).mono ?_
  rintro e w1 ⟨rfl, B1⟩
  have BB := Lib.hid (HB0.out.trans (B1.out.mono HB0.out.size))
  have KB : Hid (w1.heap[pb]? = some (.cells cs 29 (0, 0))) := Lib.hid ((B1.out.block pb (blk_lt HK0.out)).trans HK0.out)
  clear HB0 HK0 B1
  go_wp2_with fail
  have hF := HPR.out.cell KB.out
  obtain ⟨r, hr⟩ : ∃ r, grt l1 l2 = r := ⟨_, rfl⟩
  have HR := Lib.hid hr
  refine (great_to A1 c1 l1 n1 A2 c2 l2 n2 _ (Kd.C_below R1.out BB.out) C1.out (Kd.C_below R2.out BB.out) C2.out N1.out N2.out r hr).mono ?_
  clear hr
  rintro e w2 ⟨rfl, B2⟩
  have BC := Lib.hid (BB.out.trans (B2.out.mono BB.out.size))
  have KC : Hid (w2.heap[pb]? = some (.cells cs 29 (0, 0))) := Lib.hid ((B2.out.block pb (blk_lt KB.out)).trans KB.out)
  clear BB KB B2
  have hF := HPR.out.cell KC.out
  cases r with
  | true =>
    go_wp2_with fail
    go_ret
    exact ⟨rfl, BC.out⟩
  | false =>
    by_cases hneg : F < 0
    · have d0 : decide (F < 0) = true := decide_eq_true hneg
      go_wp2_with fail
      go_ret
      exact ⟨rfl, BC.out⟩
    · have d0 : decide (F < 0) = false := decide_eq_false hneg
      have HF0 : Hid (0 ≤ F) := Lib.hid (by omega)
      clear hneg hF
      have K1 : Hid (l1.length ≤ 4096) := Lib.hid (by have := (grt_own HR.out).1; omega)
      have KL := Lib.hid (okL HR.out O2.out)
      have KS := Lib.hid (small_of HR.out)
      obtain ⟨l, hl⟩ : ∃ l, (adoptP F l1 l2).1 = l := ⟨_, rfl⟩
      obtain ⟨b, hb⟩ : ∃ b, (adoptP F l1 l2).2 = b := ⟨_, rfl⟩
      have HA : Hid (adoptP F l1 l2 = (l, b)) := Lib.hid (by rw [← hl, ← hb])
      obtain ⟨m, hm⟩ : ∃ m, l.length = m := ⟨_, rfl⟩
      have HM := Lib.hid hm
      clear hl hb hm
      have hF := HPR.out.cell KC.out
      go_wp2_with ((with_reducible refine gate_dst (N := 21) rfl ?_); refine load_cells rfl rfl (ad := ⟨pb, 0, none⟩) (cs := cs.toList) ?hx Tryd.underlying29 rfl ?hs (PR.cells (F := F) KC.out) ?_; (case hx => first | rfl | (go_simp; done) | (go_simp; rfl)); (case hs => rw [Array.length_toList, HPR.out.size]; kernel_rfl))
      refine (adopt_pr HPR.out A1 c1 l1 n1 A2 c2 l2 n2 _ (Kd.C_below R1.out BC.out) (Kd.C_below R2.out BC.out) (T.out.below BC.out) K1.out KL.out KS.out.1 N1.out N2.out l b m HA.out HM.out).mono ?_
      rintro e w3 ⟨A3, c3, rfl, HC3, HR3, _, B3⟩
      have BD := Lib.hid (BC.out.trans (B3.out.mono BC.out.size))
      have KD : Hid (w3.heap[pb]? = some (.cells cs 29 (0, 0))) := Lib.hid ((B3.out.block pb (blk_lt KC.out)).trans KC.out)
      clear BC KC B3
      go_wp2_with ((with_reducible refine gate_dst (N := 27) rfl ?_); refine load_cells rfl rfl (ad := ⟨pb, 0, none⟩) (cs := cs.toList) ?hx Tryd.underlying29 rfl ?hs (PR.cells (F := F) KD.out) ?_; (case hx => first | rfl | (go_simp; done) | (go_simp; rfl)); (case hs => rw [Array.length_toList, HPR.out.size]; kernel_rfl))
      obtain ⟨z, hz⟩ : ∃ z, adI l2 l2.length 0 (-1) F = z := ⟨_, rfl⟩
      have HZ := Lib.hid hz
      refine (refadopt_pr HPR.out A2 c2 l2 n2 N2.out _ (Kd.C_below R2.out BD.out) C2.out KS.out z hz).mono ?_
      clear hz
      rintro e w4 ⟨rfl, B4⟩
      have BE := Lib.hid (BD.out.trans (B4.out.mono BD.out.size))
      have HR4 := Lib.hid (Kd.C_below HR3.out B4.out)
      clear BD B4 HR3
      have HD := Lib.hid (adopt_doc F HF0.out l1 l2)
      rw [HA.out, HZ.out] at HD
      rcases HD.out with ⟨h1, h2⟩ | ⟨a, ha, h1, h2⟩
      · have e1 := (Prod.mk.inj h2).1
        have e2 := (Prod.mk.inj h2).2
        subst e1 e2
        have dz : decide (z < 0) = true := decide_eq_true h1
        clear h1 h2 HD
        go_wp2_with fail
        refine (tables_to' A3 c3 l m HM.out A1 c1 l n1 N1.out w4 HR4.out (HM.out ▸ HC3.out) (Kd.C_below R1.out BE.out) C1.out (by have := K1.out; omega) true (eqT_refl l)).mono ?_
        rintro e w5 ⟨rfl, B5⟩
        go_wp2_with fail
        go_ret
        exact ⟨rfl, BE.out.trans (B5.out.mono BE.out.size)⟩
      · have e1 := (Prod.mk.inj h2).1
        have e2 := (Prod.mk.inj h2).2
        have HE := Lib.hid e1
        subst e2 h1
        have dz : decide ((a : Int) < 0) = false := decide_eq_false (by omega)
        have dz0 : (0 : Int) ≤ (a : Int) := by omega
        have dz1 : (a : Int) < (n2 : Int) := by have := N2.out; omega
        obtain ⟨ad, A0, c0, e, hcell, hlc, hC⟩ := in_tab R2.out BE.out a ha
        cases e
        have HLC := Lib.hid hlc
        have HCC := Lib.hid hC
        have HLT : Hid (l2[a].length ≤ 4611686018427387904) := Lib.hid (by have := (KL.out _ (List.getElem_mem ha)).1; omega)
        rw [← HE.out] at HLC HCC HLT hcell
        rw [HM.out] at hcell
        clear h2 HD hC e1 hlc
        go_wp2_with fail
        refine (tables_to' A3 c3 l m HM.out A0 c0 l m HM.out w4 HR4.out (HM.out ▸ HC3.out) HCC.out HLC.out HLT.out true (eqT_refl l)).mono ?_
        rintro e w5 ⟨rfl, B5⟩
        go_wp2_with fail
        go_ret
        exact ⟨rfl, BE.out.trans (B5.out.mono BE.out.size)⟩
end Go.Proofs.YtdabedknidkimaaDoor.Vt
