/- VoteKeeps: the walk. -/
import Derived.Test.YtdabedknidkimaaDoorVo
namespace Go.Proofs.YtdabedknidkimaaDoor.Vt
open Go.RowKit Go.Proofs.YtdabedknidkimaaDoorW.PrintWords Go.Proofs.YtdabedknidkimaaDoorW.PrintLast Go.Proofs.YtdabedknidkimaaDoorW.PrintMore Go.Proofs.YtdabedknidkimaaDoorEv Go.Proofs.YtdabedknidkimaaDoor.X
set_option linter.unusedVariables false
set_option linter.unusedSimpArgs false
/-- Copies of one's own. -/
def CP (w : World) (base : Nat) (hs : List Value) (ts : List (List S37)) : Prop := hs.length = ts.length ∧ ∀ (j : Nat) (hj : j < ts.length), ∃ v, hs[j]? = some v ∧ w.ownsRow base 37 2 v ts[j].length (fl37 ts[j])
theorem CP.nil (w : World) (base : Nat) : CP w base [] [] := ⟨rfl, fun j hj => by simp at hj⟩
theorem CP.below {w w1 : World} {base : Nat} {hs : List Value} {ts : List (List S37)} (h : CP w base hs ts) (hb : Below w.heap.size w w1) : CP w1 base hs ts :=
  ⟨h.1, fun j hj => by
    obtain ⟨v, h1, h2⟩ := h.2 j hj
    exact ⟨v, h1, pw_own_below h2 hb⟩⟩
theorem own_apart {w w1 : World} {base base' : Nat} {u v : Value} {n m : Nat} {xs ys : List Value} (hv : w.ownsRow base 37 2 v n xs) (hu : w.ownsRow base' 22 1 u m ys) (hg : w.grownBy w1 u.ownBlock) : w1.ownsRow base 37 2 v n xs := by
  refine own_other hv hg ?_
  rcases hv.2 with ⟨rfl, _⟩ | ⟨g, cap, cur, rfl, _, h1, _⟩
  · exact .inl rfl
  · refine .inr fun e => ?_
    rcases hu.2 with ⟨rfl, _⟩ | ⟨g', cap', cur', rfl, _, h2, _⟩
    · cases e
    · have e' : g = g' := Option.some.inj e
      subst e'
      rw [h1] at h2
      cases h2
theorem CP.grown {w w1 : World} {base base' : Nat} {hs : List Value} {ts : List (List S37)} {u : Value} {m : Nat} {ys : List Value} (h : CP w base hs ts) (hu : w.ownsRow base' 22 1 u m ys) (hg : w.grownBy w1 u.ownBlock) : CP w1 base hs ts :=
  ⟨h.1, fun j hj => by
    obtain ⟨v, h1, h2⟩ := h.2 j hj
    exact ⟨v, h1, own_apart h2 hu hg⟩⟩
theorem CP.snoc {w : World} {base : Nat} {hs : List Value} {ts : List (List S37)} {v : Value} {t : List S37} (h : CP w base hs ts) (hv : w.ownsRow base 37 2 v t.length (fl37 t)) : CP w base (hs ++ [v]) (ts ++ [t]) := by
  refine ⟨by rw [List.length_append, List.length_append, h.1]; rfl, fun j hj => ?_⟩
  by_cases hl : j < ts.length
  · obtain ⟨u, h1, h2⟩ := h.2 j hl
    refine ⟨u, by rw [List.getElem?_append_left (by rw [h.1]; exact hl), h1], ?_⟩
    rw [List.getElem_append_left hl]; exact h2
  · have hj2 : j = ts.length := by rw [List.length_append, List.length_singleton] at hj; omega
    subst hj2
    refine ⟨v, by rw [List.getElem?_append_right (by rw [h.1]; exact Nat.le_refl _), h.1, Nat.sub_self]; rfl, ?_⟩
    rw [List.getElem_append_right (Nat.le_refl _)]
    simpa using hv
theorem CP.tl {w : World} {base : Nat} {hs : List Value} {ts : List (List S37)} (h : CP w base hs ts) : TL w hs ts :=
  ⟨h.1, fun j hj => by
    obtain ⟨v, h1, h2⟩ := h.2 j hj
    obtain ⟨A, c, rfl, h3, h4⟩ := C_of_own h2
    exact ⟨A, c, h1, h3, h4⟩⟩
theorem own_le {w : World} {base base' : Nat} {e : TypeId} {size n : Nat} {v : Value} {xs : List Value} (h : w.ownsRow base e size v n xs) (hb : base' ≤ base) : w.ownsRow base' e size v n xs := by
  refine ⟨h.1, h.2.imp id ?_⟩
  rintro ⟨g, cap, cur, h1, h2, h3⟩
  exact ⟨g, cap, cur, h1, Nat.le_trans hb h2, h3⟩
theorem src37 {w : World} {A : Option Addr} {l : List S37} (h : Kd.C k37 w A l.length l) : Src w A (fl37 l) := fun j u hu => by
  obtain ⟨k, i, hk, rfl, hi⟩ := fl37_get l j u hu
  obtain ⟨ad, e, hx⟩ := in37 h (Below.refl _ _) k hk
  exact ⟨ad, e, by rw [← add_add]; exact hx i u hi⟩
theorem below_cells {w : World} {base g o : Nat} {vs : List Value} (h : base ≤ g) : Below base w (w.setCells g o vs) := by
  obtain ⟨h1, h2, h3, h4⟩ := setCells_same g vs o w
  exact ⟨h1, h2, h3, by rw [h4]; exact Nat.le_refl _, fun j hj => setCells_far vs o j (by omega)⟩
section
variable {P : Program} {ops : Array Oper} {rest : List Oper} {o : Oper} {a : Act} {Q : Exit → Act → World → Prop} {w : World}
/-- A store into a block of one's own. -/
theorem wl_st {base g q : Nat} {e t : TypeId} {p : Tmp} {x : Operand} {u : Value} {seg : List Value} {cur : Array Value} (hgd : o.guard = none) (ho : o.op = .store t (.tmp p) x) (hN : o.dst = none)
    (haddr : a.eval (.tmp p) = .pointer (some ⟨g, q, none⟩)) (hx : a.eval x = u) (hu : u.cells.toList = seg) (ht : (P.info? t).map (·.size) = some seg.length) (hh : w.heap[g]? = some (.cells cur e (0, 0))) (hfit : q + seg.length ≤ cur.size) (h1 : ∀ q ∈ seg, q.oneCell' = true) (hB : base ≤ g)
    (h : ∀ w1 cur', Below base w w1 → w1.heap[g]? = some (.cells cur' e (0, 0)) → cur'.size = cur.size → wpList P ops Q rest a w1) : wpList P ops Q (o :: rest) a w := by
  have hrun := run_store_run (P := P) (w := w) t u seg hh hu ht hfit h1
  obtain ⟨cur', h2, h3, _⟩ := setCells_row seg q w cur hh hfit
  refine store_event hgd ho hN (w1 := w.setCells g q seg) ?_ (fun w' hw => ?_)
  · unfold execOp
    simp [ho, haddr, hx, hrun]
  · subst hw
    exact h _ cur' (below_cells hB) h2 h3
end
set_option maxRecDepth 100000 in
set_option maxHeartbeats 8000000 in
theorem clepsydralaw19_VoteKeeps.calls (a0_0 a0_1 a0_2 a0_3 a0_4 a0_5 a0_6 a0_7 a0_8 a0_9 a0_10 a0_11 : Int) (A1 : Option Addr) (c1 : Nat) (l1 : List S37) (A2 : Option Addr) (c2 : Nat) (l2 : List (List S37)) (w : World) (hr1 : Kd.C k37 w A1 l1.length l1) (hc1 : l1.length ≤ c1) (hr2 : Kd.C (Kd.slice 37 k37) w A2 l2.length l2) (hc2 : l2.length ≤ c2) (w0_0 : (Lit.int .i64 a0_0).wf = true) (w0_1 : (Lit.int .i64 a0_1).wf = true) (w0_2 : (Lit.int .i64 a0_2).wf = true) (w0_3 : (Lit.int .i64 a0_3).wf = true) (w0_4 : (Lit.int .i64 a0_4).wf = true) (w0_5 : (Lit.int .i64 a0_5).wf = true) (w0_6 : (Lit.int .i64 a0_6).wf = true) (w0_7 : (Lit.int .i64 a0_7).wf = true) (w0_8 : (Lit.int .i64 a0_8).wf = true) (w0_9 : (Lit.int .i64 a0_9).wf = true) (w0_10 : (Lit.int .i64 a0_10).wf = true) (w0_11 : (Lit.int .i64 a0_11).wf = true) (wf1 : WfT l1) (wf2 : WfL l2) (ht : Tb w) :
    Calls Tryd.prog 6 #[.agg #[.int .i64 a0_0, .int .i64 a0_1, .int .i64 a0_2, .int .i64 a0_3, .int .i64 a0_4, .int .i64 a0_5, .int .i64 a0_6, .int .i64 a0_7, .int .i64 a0_8, .int .i64 a0_9, .int .i64 a0_10, .int .i64 a0_11], .slice A1 l1.length c1, .slice A2 l2.length c2] w fun e w' => e = .returned (.bool true) ∧ Below w.heap.size w w' := by
  have HPR : Hid (PR a0_1 #[.int .i64 a0_0, .int .i64 a0_1, .int .i64 a0_2, .int .i64 a0_3, .int .i64 a0_4, .int .i64 a0_5, .int .i64 a0_6, .int .i64 a0_7, .int .i64 a0_8, .int .i64 a0_9, .int .i64 a0_10, .int .i64 a0_11]) := Lib.hid ⟨a0_0, a0_2, a0_3, a0_4, a0_5, a0_6, a0_7, a0_8, a0_9, a0_10, a0_11, rfl⟩
  have HF64 := Lib.hid (wf64 w0_1)
  clear w0_0 w0_1 w0_2 w0_3 w0_4 w0_5 w0_6 w0_7 w0_8 w0_9 w0_10 w0_11
  generalize (#[.int .i64 a0_0, .int .i64 a0_1, .int .i64 a0_2, .int .i64 a0_3, .int .i64 a0_4, .int .i64 a0_5, .int .i64 a0_6, .int .i64 a0_7, .int .i64 a0_8, .int .i64 a0_9, .int .i64 a0_10, .int .i64 a0_11] : Array Value) = cs at HPR ⊢
  generalize a0_1 = F at HPR HF64
  have R1 := Lib.hid hr1
  have C1 := Lib.hid hc1
  have R2 := Lib.hid hr2
  have C2 := Lib.hid hc2
  have O1 := Lib.hid wf1
  have O2 := Lib.hid wf2
  have T := Lib.hid ht
  obtain ⟨n1, hn1⟩ : ∃ n, l1.length = n := ⟨_, rfl⟩
  obtain ⟨n2, hn2⟩ : ∃ n, l2.length = n := ⟨_, rfl⟩
  have N1 := Lib.hid hn1
  have N2 := Lib.hid hn2
  rw [hn1, hn2]
  clear hr1 hc1 hr2 hc2 wf1 wf2 ht hn1 hn2
  go_enter Tryd.func6, Tryd.ntmps6
  go_wp2_with fail
  have HB0 : Hid (Below w.heap.size w (w.alloc (.cells cs 29 (0, 0)))) := Lib.hid (below_alloc (Below.refl _ _) _)
  have HK0 : Hid ((w.alloc (.cells cs 29 (0, 0))).heap[w.heap.size]? = some (.cells cs 29 (0, 0))) := Lib.hid (blk_new w _)
  generalize w.alloc (.cells cs 29 (0, 0)) = w0 at HB0 HK0 ⊢
  obtain ⟨pb, hpb⟩ : ∃ pb, w.heap.size = pb := ⟨_, rfl⟩
  have HPB := Lib.hid hpb
  rw [hpb] at HK0 ⊢
  clear hpb
  refine (alive_to w0 (T.out.below HB0.out)).mono ?_
  rintro e w1 ⟨rfl, B1⟩
  have BB := Lib.hid (HB0.out.trans (B1.out.mono HB0.out.size))
  have KB : Hid (w1.heap[pb]? = some (.cells cs 29 (0, 0))) := Lib.hid ((B1.out.block pb (blk_lt HK0.out)).trans HK0.out)
  clear HB0 HK0 B1
  go_wp2_with fail
  have hF := HPR.out.cell KB.out
  obtain ⟨r, hr⟩ : ∃ r, grt l1 l2 = r := ⟨_, rfl⟩
  have HR := Lib.hid hr
  refine (great_to A1 c1 l1 n1 A2 c2 l2 n2 _ (Kd.C_below R1.out BB.out) C1.out (Kd.C_below R2.out BB.out) C2.out N1.out N2.out r hr).mono ?_
  clear hr
  rintro e w2 ⟨rfl, B2⟩
  have BC := Lib.hid (BB.out.trans (B2.out.mono BB.out.size))
  have KC : Hid (w2.heap[pb]? = some (.cells cs 29 (0, 0))) := Lib.hid ((B2.out.block pb (blk_lt KB.out)).trans KB.out)
  clear BB KB B2
  have hF := HPR.out.cell KC.out
  cases r with
  | true =>
    go_wp2_with fail
    go_ret
    exact ⟨rfl, BC.out⟩
  | false =>
    by_cases hneg : F < 0
    · have d0 : decide (F < 0) = true := decide_eq_true hneg
      go_wp2_with fail
      go_ret
      exact ⟨rfl, BC.out⟩
    · have d0 : decide (F < 0) = false := decide_eq_false hneg
      have HF0 : Hid (0 ≤ F) := Lib.hid (by omega)
      clear hneg hF
      have K1 : Hid (l1.length ≤ 4096) := Lib.hid (by have := (grt_own HR.out).1; omega)
      have KL := Lib.hid (okL HR.out O2.out)
      have KS := Lib.hid (small_of HR.out)
      have hF := HPR.out.cell KC.out
      clear hF
      obtain ⟨i0, hi0, hz0, hz1, hz2⟩ := info_parts info37
      have HEM : Hid ((w2.alloc (.cells #[] 37 (0, 0))).ownsRow w2.heap.size 37 2 (.slice (some ⟨w2.heap.size, 0, none⟩) 0 0) 0 []) := Lib.hid ⟨by simp, .inr ⟨_, 0, #[], rfl, Nat.le_refl _, blk_new w2 _, Nat.le_refl _, by unfold maxLen; omega, rfl, rfl⟩⟩
      have hk1n : n1 ≤ 4096 := by have := K1.out; have := N1.out; omega
      have hk2n : n2 ≤ 4096 := by have := KS.out.1; have := N2.out; omega
      have hF := HPR.out.cell KC.out
      have HS1 : Hid (Src w2 A1 (fl37 l1)) := Lib.hid (src37 (Kd.C_below R1.out BC.out))
      go_wp2_with (at_builtin; refine wl_ap rfl _ _ 22 rfl w2.heap.size 37 i0 (.agg #[.int .i64 0, .int .i64 0]) 2 16 Tryd.underlying22 hi0 hz0 hz1 hz2 rfl (by decide) (.slice (some ⟨w2.heap.size, 0, none⟩) 0 0) 0 [] rfl ?ho A1 n1 c1 (fl37 l1) rfl (by rw [fl37_length, N1.out]) ?hn (fl37_one l1) (by unfold maxLen; omega) (by omega) (by simp) ?_; (case ho => exact HEM.out); (case hn => exact HS1.out.below (below_alloc (Below.refl _ _) _)); intro um wm hom hbm; have HOM : Hid (wm.ownsRow w2.heap.size 37 2 um n1 (fl37 l1)) := Lib.hid (by simpa using hom); have HBM := Lib.hid (((below_alloc (Below.refl w2.heap.size w2) _)).trans hbm); clear hom hbm)
      have BM := Lib.hid (BC.out.trans (HBM.out.mono BC.out.size))
      have KM : Hid (wm.heap[pb]? = some (.cells cs 29 (0, 0))) := Lib.hid ((HBM.out.block pb (blk_lt KC.out)).trans KC.out)
      clear hF HEM HS1 BC KC HBM
      go_loopw [8, 30] (fun v8 v30 wr => ∃ (k : Nat) (u : Value) (hs : List Value), k ≤ n2 ∧ v30 = .int .i64 k ∧ u = v8 ∧ Hid (wr.ownsRow wm.heap.size 22 1 u k hs) ∧ Hid (CP wr wm.heap.size hs (l2.take k)) ∧ Hid (Below wm.heap.size wm wr)) (fun _ v30 _ => n2 - (intOf v30).toNat)
      case atStart => exact ⟨0, _, [], by omega, rfl, rfl, Lib.hid (World.ownsRow_nil _ _ _ _), Lib.hid (CP.nil _ _), Lib.hid (Below.refl _ _)⟩
      case round =>
        obtain ⟨k, u, hs, hk, rfl, hu, HO, HCP, HB⟩ := hrel
        subst hu
        by_cases hlt : k < n2
        · have hkl : k < l2.length := by rw [N2.out]; exact hlt
          have hk1 : (k : Int) < (n2 : Int) := by omega
          have hs1 : -9223372036854775808 ≤ (k : Int) + 1 := by omega
          have hs2 : (k : Int) + 1 ≤ 9223372036854775807 := by omega
          obtain ⟨ad, A0, c0, e, hcell, hlc, hC⟩ := in_tab R2.out (BM.out.trans (HB.out.mono BM.out.size)) k hkl
          cases e
          have HCC := Lib.hid hC
          have HTK : Hid (l2.take (k + 1) = l2.take k ++ [l2[k]]) := Lib.hid (List.take_succ_eq_append_getElem hkl)
          have HLT : Hid (l2[k].length ≤ 4096) := Lib.hid (KL.out _ (List.getElem_mem hkl)).1
          obtain ⟨x, hx⟩ : ∃ x, l2[k] = x := ⟨_, rfl⟩
          obtain ⟨nx, hnx⟩ : ∃ nx, x.length = nx := ⟨_, rfl⟩
          have HNX := Lib.hid hnx
          rw [hx] at HCC HTK hcell HLT
          rw [hnx] at hcell HLT
          have HSX : Hid (Src wr A0 (fl37 x)) := Lib.hid (src37 HCC.out)
          have hnx4 := HLT.out
          have HEM : Hid ((wr.alloc (.cells #[] 37 (0, 0))).ownsRow wr.heap.size 37 2 (.slice (some ⟨wr.heap.size, 0, none⟩) 0 0) 0 []) := Lib.hid ⟨by simp, .inr ⟨_, 0, #[], rfl, Nat.le_refl _, blk_new wr _, Nat.le_refl _, by unfold maxLen; omega, rfl, rfl⟩⟩
          clear hC hlc hx hnx
          go_wp2_with (first
            | ((with_reducible refine gate_dst (N := 37) rfl ?_); refine wl_ap rfl _ _ 22 rfl wr.heap.size 37 i0 (.agg #[.int .i64 0, .int .i64 0]) 2 16 Tryd.underlying22 hi0 hz0 hz1 hz2 rfl (by decide) (.slice (some ⟨wr.heap.size, 0, none⟩) 0 0) 0 [] rfl ?ho A0 nx _ (fl37 x) rfl (by rw [fl37_length, HNX.out]) ?hn (fl37_one x) (by unfold maxLen; omega) (by omega) (by simp) ?_; (case ho => exact HEM.out); (case hn => exact HSX.out.below (below_alloc (Below.refl _ _) _)); intro uc wc hoc hbc; have HBC := Lib.hid (((below_alloc (Below.refl wr.heap.size wr) _)).trans hbc); have HOC : Hid (wc.ownsRow wm.heap.size 37 2 uc nx (fl37 x)) := Lib.hid (own_le (show wc.ownsRow wr.heap.size 37 2 uc nx (fl37 x) by rw [Nat.zero_add, List.nil_append] at hoc; exact hoc) HB.out.size); have HCQ := Lib.hid (HCP.out.below HBC.out); have HOQ := Lib.hid (pw_own_below HO.out HBC.out); have HBQ := Lib.hid (HB.out.trans (HBC.out.mono HB.out.size)); obtain ⟨Ac, cc, e, _, _⟩ := C_of_own (HNX.out.symm ▸ HOC.out); rw [HNX.out] at e; subst e; clear hoc hbc)
            | ((with_reducible refine gate_dst (N := 39) rfl ?_); refine print_append_cells (w0 := wm) wm.heap.size rfl _ _ 25 22 (.slice none 0 0) 1 24 rfl Tryd.underlying25 info22 rfl (by decide) (by decide) u k hs [.slice Ac nx cc] rfl rfl rfl ?h1 HOQ.out HBQ.out HBQ.out.size (by omega) ?_; (case h1 => intro z hz; rw [List.mem_singleton.1 hz]; rfl); intro u6 w6 ho6 hb6 hg6 _; have HO6 := Lib.hid ho6; have HB6 := Lib.hid hb6; have HC6 := Lib.hid ((HCQ.out.grown HOQ.out hg6).snoc (by rw [HNX.out]; exact own_apart HOC.out HOQ.out hg6)); clear ho6 hb6 hg6))
          go_roundw
          case rel => exact ⟨k + 1, u6, hs ++ [.slice Ac nx cc], by omega, by simp, rfl, HO6, Lib.hid (by rw [HTK.out]; exact HC6.out), HB6⟩
          case measure => simp [intOf]; omega
        · obtain rfl : k = n2 := by omega
          have htk : l2.take k = l2 := List.take_of_length_le (by rw [N2.out]; exact Nat.le_refl _)
          rw [htk] at HCP
          clear htk
          have BN := Lib.hid (BM.out.trans (HB.out.mono BM.out.size))
          have KN : Hid (wr.heap[pb]? = some (.cells cs 29 (0, 0))) := Lib.hid ((HB.out.block pb (blk_lt KM.out)).trans KM.out)
          have HOM2 := Lib.hid (pw_own_below HOM.out HB.out)
          obtain ⟨Am, cm, hum, hcm, hCm⟩ := C_of_own (N1.out.symm ▸ HOM2.out)
          have HCM := Lib.hid hCm
          have HCLM := Lib.hid hcm
          rw [N1.out] at hum HCLM
          subst hum
          obtain ⟨Aa, ca, hua, hca, hCa⟩ := tl_own (N2.out.symm ▸ HO.out) HCP.out.tl
          have HCA := Lib.hid hCa
          have HCLA := Lib.hid hca
          rw [N2.out] at hua HCLA
          subst hua
          obtain ⟨l, hl⟩ : ∃ l, (adoptP F l1 l2).1 = l := ⟨_, rfl⟩
          obtain ⟨b, hb⟩ : ∃ b, (adoptP F l1 l2).2 = b := ⟨_, rfl⟩
          have HA : Hid (adoptP F l1 l2 = (l, b)) := Lib.hid (by rw [← hl, ← hb])
          obtain ⟨m, hm⟩ : ∃ m, l.length = m := ⟨_, rfl⟩
          have HM := Lib.hid hm
          clear hl hb hm hCm hcm hCa hca HOM HOM2 HO HB BM KM
          go_wp2_with ((with_reducible refine gate_dst (N := 42) rfl ?_); refine load_cells rfl rfl (ad := ⟨pb, 0, none⟩) (cs := cs.toList) ?hx Tryd.underlying29 rfl ?hs (PR.cells (F := F) KN.out) ?_; (case hx => first | rfl | (go_simp; done) | (go_simp; rfl)); (case hs => rw [Array.length_toList, HPR.out.size]; kernel_rfl))
          refine (adopt_pr HPR.out Am cm l1 n1 Aa ca l2 k _ HCM.out HCA.out (T.out.below BN.out) K1.out KL.out KS.out.1 N1.out N2.out l b m HA.out HM.out).mono ?_
          obtain ⟨wo, hwo⟩ : ∃ wo : World, wo = wr := ⟨wr, rfl⟩
          subst hwo
          rintro e w3 ⟨A3, c3, rfl, HC3, _, HO3, B3⟩
          have HG : Hid (0 < m → ∃ g cur, A3 = some ⟨g, 0, none⟩ ∧ wo.heap.size ≤ g ∧ w3.heap[g]? = some (.cells cur 37 (0, 0)) ∧ m * 2 ≤ cur.size) := Lib.hid (fun h0 => by
            rcases HO3.out.2 with ⟨_, h⟩ | ⟨g, cap, cur, e, h1, h2, h3, _, h4, _⟩
            · omega
            · injection e with e1 e2 e3
              exact ⟨g, cur, e1, h1, h2, by rw [h4]; exact Nat.mul_le_mul_right _ h3⟩)
          have hm46 : m ≤ 4611686018427387904 := by
            have h1 : l.length ≤ 4096 := by
              rcases adopt_doc F HF0.out l1 l2 with ⟨_, h⟩ | ⟨a, ha, _, h⟩
              · rw [HA.out] at h; rw [(Prod.mk.inj h).1]; exact K1.out
              · rw [HA.out] at h; rw [(Prod.mk.inj h).1]; exact (KL.out _ (List.getElem_mem ha)).1
            have := HM.out
            omega
          clear HO3
          go_wp2_with fail
          go_loopw [50] (fun v50 w' => ∃ i : Nat, i ≤ m ∧ v50 = .int .i64 i ∧ Hid (Below wo.heap.size wo w') ∧ Hid (0 < m → ∃ g cur, A3 = some ⟨g, 0, none⟩ ∧ wo.heap.size ≤ g ∧ w'.heap[g]? = some (.cells cur 37 (0, 0)) ∧ m * 2 ≤ cur.size)) (fun v50 _ => m - (intOf v50).toNat)
          case atStart => exact ⟨0, by omega, rfl, B3, HG⟩
          case round =>
            obtain ⟨wt, hwt⟩ : ∃ wt : World, wt = wr := ⟨wr, rfl⟩
            subst hwt
            obtain ⟨i, hi, rfl, HBi, HGi⟩ := hrel
            clear B3 HG
            by_cases hlt2 : i < m
            · obtain ⟨g, cur, e, hge, hblk, hsz⟩ := HGi.out (by omega)
              subst e
              have HBK := Lib.hid hblk
              have HSZ : Hid (i * 2 + 2 ≤ cur.size) := Lib.hid (by omega)
              have HSZ2 := Lib.hid hsz
              have HGE := Lib.hid hge
              have hk1 : (i : Int) < (m : Int) := by omega
              have hs1 : -9223372036854775808 ≤ (i : Int) + 1 := by omega
              have hs2 : (i : Int) + 1 ≤ 9223372036854775807 := by omega
              clear hblk hsz hge
              go_wp2_with ((with_reducible refine gate_store (t := 37) (p := 56) rfl ?_); refine wl_st (base := wo.heap.size) (g := g) (q := i * 2) (e := 37) (u := .agg #[.int .i64 77, .int .i64 0]) (seg := [.int .i64 77, .int .i64 0]) (cur := cur) rfl rfl rfl ?ha rfl rfl (by kernel_rfl) HBK.out HSZ.out (by simp [Value.oneCell']) HGE.out ?_; (case ha => first | rfl | (go_simp; done) | (simp; done)); intro w4 cur4 hb4 hk4 hz4; have HB4 := Lib.hid (HBi.out.trans hb4); have HK4 := Lib.hid hk4; have HZ4 := Lib.hid hz4; clear hb4 hk4 hz4)
              go_roundw
              case rel => exact ⟨i + 1, by omega, by simp, HB4, Lib.hid (fun _ => ⟨g, cur4, rfl, HGE.out, HK4.out, by rw [HZ4.out]; exact HSZ2.out⟩)⟩
              case measure => simp [intOf]; omega
            · obtain rfl : i = m := by omega
              clear HGi
              have hk2i : (k : Int) ≤ 4096 := by omega
              go_wp2_with fail
              go_loopw [60] (fun v60 w' => ∃ j : Nat, j ≤ k ∧ v60 = .int .i64 j ∧ Hid (Below wo.heap.size wo w')) (fun v60 _ => k - (intOf v60).toNat)
              case atStart => exact ⟨0, by omega, rfl, HBi⟩
              case round =>
                obtain ⟨wj, hwj⟩ : ∃ wj : World, wj = wr := ⟨wr, rfl⟩
                subst hwj
                obtain ⟨j, hj, rfl, HBj⟩ := hrel
                clear HBi
                by_cases hlt3 : j < k
                · have hjl : j < l2.length := by rw [N2.out]; exact hlt3
                  have hk1 : (j : Int) < (k : Int) := by omega
                  have hs1 : -9223372036854775808 ≤ (j : Int) + 1 := by omega
                  have hs2 : (j : Int) + 1 ≤ 9223372036854775807 := by omega
                  obtain ⟨ad, A0, c0, e, hcell, hlc, hC⟩ := in_tab R2.out (BN.out.trans (HBj.out.mono BN.out.size)) j hjl
                  cases e
                  obtain ⟨ad2, A4, c4, e, hcell2, hlc2, hC2⟩ := in_tab HCA.out HBj.out j hjl
                  cases e
                  have HCC := Lib.hid hC
                  have HCC2 := Lib.hid hC2
                  have HLT : Hid (l2[j].length ≤ 4096) := Lib.hid (KL.out _ (List.getElem_mem hjl)).1
                  have HLC := Lib.hid hlc
                  have HLC2 := Lib.hid hlc2
                  generalize l2[j] = x at HCC HCC2 HLT HLC HLC2 hcell hcell2
                  obtain ⟨nx, hnx⟩ : ∃ nx, x.length = nx := ⟨_, rfl⟩
                  have HNX := Lib.hid hnx
                  rw [hnx] at hcell hcell2
                  clear hC hC2 hlc hlc2 hnx
                  have HQ : Hid (∀ W, Below wj.heap.size wj W → Calls Tryd.prog 12 #[.slice A4 nx c4, .slice A0 nx c0] W fun e w' => e = .returned (.bool true) ∧ Hid (Below W.heap.size W w')) := Lib.hid (fun W hW =>
                    tables_to' A4 c4 x nx HNX.out A0 c0 x nx HNX.out W (Kd.C_below HCC2.out hW) HLC2.out (Kd.C_below HCC.out hW) HLC.out (by have := HLT.out; omega) true (eqT_refl x))
                  go_wp2_with fail
                  go_region_held3 (fun w' => w'.cell? (ad.add j) = some (.slice A0 nx c0) ∧ w'.cell? (ad2.add j) = some (.slice A4 nx c4))
                    (first | exact ⟨hcell, hcell2⟩ | exact ⟨pw_cell_below HB5.out hcell, pw_cell_below HB5.out hcell2⟩ | go_keep)
                    ((go_at_call 12; refine (HQ.out _ ?h1).mono ?_; (case h1 => first | exact Below.refl _ _ | exact pw_below_drewN (Below.refl _ _) 1); rintro e w5 ⟨rfl, HB5⟩))
                  go_wp2
                  go_roundw
                  case rel => exact ⟨j + 1, by omega, by simp, Lib.hid (by
                    have s := HBj.out.size
                    first
                      | exact HBj.out.trans (HB5.out.mono s)
                      | exact (HBj.out.trans ((pw_below_drewN (Below.refl _ _) 1).mono s)).trans (HB5.out.mono s))⟩
                  case measure => simp [intOf]; omega
                · obtain rfl : j = k := by omega
                  have BZ := Lib.hid (BN.out.trans (HBj.out.mono BN.out.size))
                  go_wp2_with fail
                  refine (tables_to' Am cm l1 n1 N1.out A1 c1 l1 n1 N1.out _ (Kd.C_below HCM.out HBj.out) (N1.out ▸ HCLM.out) (Kd.C_below R1.out BZ.out) C1.out (by have := K1.out; omega) true (eqT_refl l1)).mono ?_
                  rintro e w6 ⟨rfl, B6⟩
                  go_wp2_with fail
                  go_ret
                  exact ⟨rfl, BZ.out.trans (B6.out.mono BZ.out.size)⟩
end Go.Proofs.YtdabedknidkimaaDoor.Vt
