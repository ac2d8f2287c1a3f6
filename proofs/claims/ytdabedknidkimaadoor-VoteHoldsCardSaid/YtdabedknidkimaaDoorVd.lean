/- vote.Adopt: what it answers. -/
import Derived.Test.YtdabedknidkimaaDoorVa
namespace Go.Proofs.YtdabedknidkimaaDoor.Vt
open Go.RowKit Go.Proofs.YtdabedknidkimaaDoorW.PrintWords Go.Proofs.YtdabedknidkimaaDoorW.PrintLast Go.Proofs.YtdabedknidkimaaDoorW.PrintMore Go.Proofs.YtdabedknidkimaaDoorEv Go.Proofs.YtdabedknidkimaaDoor.X
set_option linter.unusedVariables false
set_option linter.unusedSimpArgs false
theorem info9 : (Tryd.prog.info? 9).map (fun i => (i.zero, i.size, i.bytes)) = some (some (.string ByteArray.empty), 1, 16) := by kernel_rfl
def keysL (ts : List (List S37)) : List ByteArray := (ts.filter gd).map keyB
theorem keys_snoc (ts : List (List S37)) (t : List S37) : keysL (ts ++ [t]) = if gd t = true then keysL ts ++ [keyB t] else keysL ts := by
  unfold keysL
  rw [List.filter_append, List.map_append]
  by_cases h : gd t = true
  · rw [if_pos h, List.filter_cons_of_pos h]
    rfl
  · rw [if_neg h, List.filter_cons_of_neg h]
    simp
theorem keys_len (ts : List (List S37)) : (keysL ts).length ≤ ts.length := by
  unfold keysL
  rw [List.length_map]
  exact List.length_filter_le _ _
theorem reps_strs (W : World) (xs : List ByteArray) : Reps (Kd.string.K W) Kd.string.sz xs (xs.map Value.string) := by
  refine ⟨by simp [Kd.string, Kd.scalar], fun j q hq => ?_⟩
  show ((xs.map Value.string).drop (j * 1)).take 1 = [Value.string q]
  rw [Nat.mul_one, List.drop_eq_getElem_cons (by rw [List.length_map]; exact (List.getElem?_eq_some_iff.1 hq).1)]
  simp [(List.getElem?_eq_some_iff.1 hq).2]
/-- What is chosen; and what Adopt answers. -/
def agr (F : Int) (ts : List (List S37)) : ByteArray × Bool := Aps.agreed F (keysL ts)
def adoptP (F : Int) (own : List S37) (ts : List (List S37)) : List S37 × Bool := if (agr F ts).2 = true then (ts.getD (idxK ts (agr F ts).1) [], true) else (own, false)
theorem keyB_size {t : List S37} (h : okT t) : (keyB t).size ≤ 4096 * 42 := by
  show (keyL t).toArray.size ≤ _
  rw [List.size_toArray]
  exact Nat.le_trans (key_len t h.2) (Nat.mul_le_mul_right _ h.1)
theorem agr_in {F : Int} {ts : List (List S37)} (h : (agr F ts).2 = true) : idxK ts (agr F ts).1 < ts.length := by
  have hm : (agr F ts).1 ∈ keysL ts := by
    unfold agr Aps.agreed at h ⊢
    split at h
    · cases h
    · rename_i hn
      rw [if_neg hn]
      obtain ⟨h1, _, _⟩ := (Aps.pick_best F (keysL ts) (keysL ts).length).some (by omega)
      rw [List.getElem?_eq_getElem h1]
      exact List.getElem_mem h1
  unfold keysL at hm
  obtain ⟨t, ht, e⟩ := List.mem_map.1 hm
  unfold idxK
  rw [List.findIdx_lt_length]
  exact ⟨t, (List.mem_filter.1 ht).1, decide_eq_true e⟩
set_option maxRecDepth 100000 in
set_option maxHeartbeats 8000000 in
theorem Adopt_calls (a0 F a2 a3 a4 a5 a6 a7 a8 a9 a10 a11 : Int) (A0 : Option Addr) (c0 : Nat) (own : List S37) (A1 : Option Addr) (c1 : Nat) (ts : List (List S37)) (w : World) (hr0 : Kd.C k37 w A0 own.length own) (hr1 : Kd.C (Kd.slice 37 k37) w A1 ts.length ts) (ht : Tb w) (hown : own.length ≤ 4096) (hok : ∀ t ∈ ts, okT t) (hl : ts.length ≤ 4096) :
    Calls Tryd.prog 13 #[.agg #[.int .i64 a0, .int .i64 F, .int .i64 a2, .int .i64 a3, .int .i64 a4, .int .i64 a5, .int .i64 a6, .int .i64 a7, .int .i64 a8, .int .i64 a9, .int .i64 a10, .int .i64 a11], .slice A0 own.length c0, .slice A1 ts.length c1] w fun e w' =>
      ∃ u, e = .returned (.tuple #[u, .bool (adoptP F own ts).2]) ∧ w'.ownsRow w.heap.size 37 2 u (adoptP F own ts).1.length (fl37 (adoptP F own ts).1) ∧ Below w.heap.size w w' := by
  have R0 := Lib.hid hr0
  have R1 := Lib.hid hr1
  have T := Lib.hid ht
  have OW := Lib.hid hown
  have O := Lib.hid hok
  obtain ⟨n0, hn0⟩ : ∃ n0, own.length = n0 := ⟨_, rfl⟩
  obtain ⟨n, hn⟩ : ∃ n, ts.length = n := ⟨_, rfl⟩
  have HN0 := Lib.hid hn0
  have HN := Lib.hid hn
  rw [hn] at hl ⊢
  rw [hn0]
  clear hr0 hr1 ht hown hok hn hn0
  go_enter Tryd.func13, Tryd.ntmps13
  go_wp2
  have HB0 : Hid (Below w.heap.size w (w.alloc (.cells #[.int .i64 a0, .int .i64 F, .int .i64 a2, .int .i64 a3, .int .i64 a4, .int .i64 a5, .int .i64 a6, .int .i64 a7, .int .i64 a8, .int .i64 a9, .int .i64 a10, .int .i64 a11] 29 (0, 0)))) := Lib.hid (below_alloc (Below.refl _ _) _)
  have HF0 : Hid ((w.alloc (.cells #[.int .i64 a0, .int .i64 F, .int .i64 a2, .int .i64 a3, .int .i64 a4, .int .i64 a5, .int .i64 a6, .int .i64 a7, .int .i64 a8, .int .i64 a9, .int .i64 a10, .int .i64 a11] 29 (0, 0))).cell? ⟨w.heap.size, 1, none⟩ = some (.int .i64 F)) := Lib.hid (blk_cell (blk_new w _) 1)
  generalize w.alloc (.cells #[.int .i64 a0, .int .i64 F, .int .i64 a2, .int .i64 a3, .int .i64 a4, .int .i64 a5, .int .i64 a6, .int .i64 a7, .int .i64 a8, .int .i64 a9, .int .i64 a10, .int .i64 a11] 29 (0, 0)) = w1 at HB0 HF0 ⊢
  have R0' := Lib.hid (Kd.C_below R0.out HB0.out)
  have R1' := Lib.hid (Kd.C_below R1.out HB0.out)
  have T' := Lib.hid (T.out.below HB0.out)
  obtain ⟨pb, hpb⟩ : ∃ pb, w.heap.size = pb := ⟨_, rfl⟩
  rw [hpb] at HF0 ⊢
  have HPB := Lib.hid hpb
  clear R0 R1 T hpb
  go_loopw [8, 16] (fun v8 v16 wr => ∃ (k : Nat) (u : Value), k ≤ n ∧ v16 = .int .i64 k ∧ u = v8 ∧ Hid (Below w1.heap.size w1 wr) ∧ Hid (wr.ownsRow w1.heap.size 9 1 u (keysL (ts.take k)).length ((keysL (ts.take k)).map .string))) (fun v8 v16 _ => n - (intOf v16).toNat)
  case atStart => exact ⟨0, _, by omega, rfl, rfl, Lib.hid (Below.refl _ _), Lib.hid (World.ownsRow_nil _ _ _ _)⟩
  case round =>
    obtain ⟨k, u, hk, rfl, hu, HB, HO⟩ := hrel
    subst hu
    by_cases hlt : k < n
    · have hkl : k < ts.length := by rw [HN.out]; exact hlt
      have hk1 : (k : Int) < (n : Int) := by omega
      have hs1 : -9223372036854775808 ≤ (k : Int) + 1 := by omega
      have hs2 : (k : Int) + 1 ≤ 9223372036854775807 := by omega
      obtain ⟨ad, B0, d0, e, hc, hlc, hC⟩ := in_tab R1'.out HB.out k hkl
      cases e
      have HTK : Hid (ts.take (k + 1) = ts.take k ++ [ts[k]]) := Lib.hid (List.take_succ_eq_append_getElem hkl)
      have HOT : Hid (okT ts[k]) := Lib.hid (O.out _ (List.getElem_mem hkl))
      have HG := Lib.hid (Good_calls B0 d0 ts[k] _ hC hlc (by have := HOT.out.1; omega))
      have HK := Lib.hid (fun W hb => Key_calls B0 d0 ts[k] W (Kd.C_below hC hb) ((T'.out.below HB.out).below hb) HOT.out.2 HOT.out.1)
      generalize ts[k] = t at hc HTK HOT HG HK
      have HKB : Hid ((⟨(keyL t).toArray⟩ : ByteArray) = keyB t) := Lib.hid rfl
      generalize (⟨(keyL t).toArray⟩ : ByteArray) = kb at HK HKB
      obtain ⟨g, hg⟩ : ∃ g, gd t = g := ⟨_, rfl⟩
      have HGD := Lib.hid hg
      rw [hg] at HG
      generalize t.length = m at hc HG HK
      have HQ : Hid ((keysL (ts.take k)).length ≤ k) := Lib.hid (Nat.le_trans (keys_len _) (by rw [List.length_take]; omega))
      clear hC hlc hg
      cases g with
      | true =>
        go_wp2_with (first
          | (go_at_call 19; refine HG.out.mono ?_; rintro e w2 ⟨rfl, HB2⟩)
          | (go_at_call 10; refine (HK.out _ HB2.out).mono ?_; rintro e w3 ⟨rfl, hb3⟩; have HB3 := Lib.hid hb3; clear hb3)
          | (at_builtin; refine print_append_cells (w0 := w3) w1.heap.size rfl _ _ 48 9 (.string ByteArray.empty) 1 16 rfl Tryd.underlying48 info9 rfl (by decide) (by decide) u (keysL (ts.take k)).length ((keysL (ts.take k)).map .string) [.string kb] rfl rfl rfl (by simp [Value.oneCell']) (pw_own_below (pw_own_below HO.out HB2.out) HB3.out) ⟨rfl, rfl, rfl, Nat.le_refl _, fun _ _ => rfl⟩ (Nat.le_trans HB.out.size (Nat.le_trans HB2.out.size HB3.out.size)) (by have := HQ.out; omega) ?_; intro u' w4 hown' hB4 hgrow hat))
        go_roundw
        case rel =>
          refine ⟨k + 1, u', by omega, by simp, rfl, Lib.hid ?_, Lib.hid ?_⟩
          · exact ((HB.out.trans (HB2.out.mono HB.out.size)).trans (HB3.out.mono (Nat.le_trans HB.out.size HB2.out.size))).trans hB4
          · rw [HTK.out, keys_snoc, if_pos HGD.out, List.map_append, List.length_append, ← HKB.out]
            exact hown'
        case measure => simp [intOf]; omega
      | false =>
        go_wp2_with (go_at_call 19; refine HG.out.mono ?_; rintro e w2 ⟨rfl, HB2⟩)
        go_roundw
        case rel =>
          refine ⟨k + 1, u, by omega, by simp, rfl, Lib.hid (HB.out.trans (HB2.out.mono HB.out.size)), Lib.hid ?_⟩
          rw [HTK.out, keys_snoc, if_neg (by rw [HGD.out]; decide)]
          exact pw_own_below HO.out HB2.out
        case measure => simp [intOf]; omega
    · obtain rfl : k = n := by omega
      have hkt : ts.take k = ts := List.take_of_length_le (by rw [HN.out]; exact Nat.le_refl _)
      rw [hkt] at HO
      clear hkt
      obtain ⟨A2, c2, hu, hrd⟩ := own_reads_row HO.out (reps_strs _ _) rfl
      subst hu
      have HAG : Hid (∀ W, Below _ _ W → Calls Tryd.prog 20 #[.int .i64 F, .slice A2 (keysL ts).length c2] W fun e w' => e = .returned (.tuple #[.string (agr F ts).1, .bool (agr F ts).2]) ∧ Below W.heap.size W w') := Lib.hid (fun W hb => Ags.agreed_calls F A2 c2 (keysL ts) W (Kd.C_below hrd hb) (by have := keys_len ts; have := HN.out; omega) (fun x hx => by
        unfold keysL at hx
        obtain ⟨t, ht, rfl⟩ := List.mem_map.1 hx
        exact Nat.le_trans (keyB_size (O.out t (List.mem_filter.1 ht).1)) (by unfold maxLen; omega)))
      have hcf := pw_cell_below HB.out HF0.out
      obtain ⟨b, hb⟩ : ∃ b, (agr F ts).2 = b := ⟨_, rfl⟩
      have HBE := Lib.hid hb
      obtain ⟨ky, hky⟩ : ∃ ky, (agr F ts).1 = ky := ⟨_, rfl⟩
      have HKY := Lib.hid hky
      rw [hb, hky] at HAG
      have HLK : Hid ((keysL ts).length ≤ ts.length) := Lib.hid (keys_len ts)
      generalize (keysL ts).length = q at HO HAG HLK
      have HA := Lib.hid (show adoptP F own ts = if b = true then (ts.getD (idxK ts ky) [], true) else (own, false) by unfold adoptP; rw [hb, hky])
      clear hb hky hrd
      cases b with
      | false =>
        have HC0 := Lib.hid (fun W hb => Clone_calls A0 c0 own W (Kd.C_below R0'.out hb) OW.out)
        rw [HN0.out] at HC0
        go_wp2_with (first
          | (go_at_call 20; refine (HAG.out _ (Below.refl _ _)).mono ?_; rintro e w2 ⟨rfl, hb2⟩; have HB2 := Lib.hid hb2; clear hb2)
          | (go_at_call 21; refine (HC0.out _ ?h1).mono ?_; (case h1 => exact (HB.out.trans (HB2.out.mono HB.out.size)).trans ((below_alloc (Below.refl _ _) _).mono (Nat.le_trans HB.out.size HB2.out.size))); rintro e w3 ⟨u3, rfl, ho3, hb3⟩; have HO3 := Lib.hid ho3; have HB3 := Lib.hid hb3; clear ho3 hb3))
        go_ret2
        have hA := HA.out
        rw [if_neg (by decide)] at hA
        rw [hA]
        refine ⟨u3, rfl, ?_, ?_⟩
        · rw [HN0.out]
          refine own_weaken HO3.out ?_
          have := HB0.out.size
          have := HB.out.size
          have := HB2.out.size
          simp
          omega
        · refine ((HB0.out.trans (HB.out.mono HB0.out.size)).trans (HB2.out.mono (Nat.le_trans HB0.out.size HB.out.size))).trans ?_
          have hz : w.heap.size ≤ w2.heap.size := Nat.le_trans HB0.out.size (Nat.le_trans HB.out.size HB2.out.size)
          exact ((below_alloc (Below.refl _ _) _).mono hz).trans (HB3.out.mono (by simp; omega))
      | true =>
        have hin := agr_in HBE.out
        rw [HKY.out] at hin
        obtain ⟨z, hz⟩ : ∃ z, idxK ts ky = z := ⟨_, rfl⟩
        have hzl : z < ts.length := by rw [← hz]; exact hin
        obtain ⟨ad, e⟩ : ∃ ad, A1 = some ad := by
          obtain ⟨ad, _, _, e, _⟩ := in_tab R1'.out (Below.refl _ _) z hzl
          exact ⟨ad, e⟩
        cases e
        have HIX := Lib.hid (fun W (hb : Below w1.heap.size w1 W) (bx : Nat) (hbx : W.cell? ⟨bx, 0, none⟩ = some (.string ky)) => IndexTab_calls (some ad) c1 ts bx ky W (Kd.C_below R1'.out hb) (T'.out.below hb) O.out (by rw [HN.out]; exact hl) hbx hin)
        rw [hz, HN.out] at HIX
        have HEL := Lib.hid (fun W (hb : Below w1.heap.size w1 W) => in_tab R1'.out hb z hzl)
        have HOZ : Hid (ts[z].length ≤ 4096) := Lib.hid (O.out _ (List.getElem_mem hzl)).1
        have HAT : Hid (adoptP F own ts = (ts[z], true)) := Lib.hid (by
          rw [HA.out, if_pos rfl, hz]
          simp [List.getD_eq_getElem?_getD, hzl])
        generalize ts[z] = t at HEL HOZ HAT
        have hzn : (z : Int) < (k : Int) := by rw [← HN.out]; omega
        have hz0 : (0 : Int) ≤ (z : Int) := by omega
        clear hin hz hzl
        go_wp2_with (first
          | (go_at_call 20; refine (HAG.out _ (Below.refl _ _)).mono ?_; rintro e w2 ⟨rfl, hb2⟩; have HB2 := Lib.hid hb2; clear hb2; have HW2 := Lib.hid (HB.out.trans (HB2.out.mono HB.out.size)))
          | (go_at_call 22; refine (HIX.out _ ?h1 w2.heap.size ?h2).mono ?_; (case h1 => exact HW2.out.trans ((below_alloc (Below.refl _ _) _).mono HW2.out.size)); (case h2 => exact blk_cell (blk_new w2 _) 0); rintro e w3 ⟨rfl, HB3⟩; have HW3 := Lib.hid (HW2.out.trans (((below_alloc (Below.refl _ _) (.cells #[.string ky] 9 (0, 0))).mono HW2.out.size).trans (HB3.out.mono (by have := HW2.out.size; simp; omega)))); obtain ⟨ad', B1, d1, e1, hc1, hlc1, hC1⟩ := HEL.out w3 HW3.out; cases e1)
          | (go_at_call 21; refine (Clone_calls B1 d1 t w3 hC1 HOZ.out).mono ?_; rintro e w4 ⟨u4, rfl, ho4, hb4⟩; have HO4 := Lib.hid ho4; have HB4 := Lib.hid hb4; clear ho4 hb4))
        go_ret2
        rw [HAT.out]
        refine ⟨u4, rfl, own_weaken HO4.out (Nat.le_trans HB0.out.size HW3.out.size), ?_⟩
        exact (HB0.out.trans (HW3.out.mono HB0.out.size)).trans (HB4.out.mono (Nat.le_trans HB0.out.size HW3.out.size))
end Go.Proofs.YtdabedknidkimaaDoor.Vt
