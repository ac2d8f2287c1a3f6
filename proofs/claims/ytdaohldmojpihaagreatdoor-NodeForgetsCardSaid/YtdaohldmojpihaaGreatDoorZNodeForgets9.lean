/- Texts Ags, Wa, Wd, Np, Nq, Nf, Nb, in one file, without what is not needed here. -/
import Derived.Maps.OwnOps
import Derived.Maps.Views
import Derived.WalkKit
import Derived.StringKeys
import Derived.Lib.SliceRun
import Derived.Lib.SlicesS
import Derived.Deep.DeepCutAuto
import Derived.Test.YtdaohldmojpihaaGreatDoorZNodeForgets8
namespace Go.Proofs.YtdaohldmojpihaaGreatDoor.Ags
open Go.RowKit Go.Maps Go.WideMaps Go.Proofs.YtdaohldmojpihaaGreatDoorW.PrintWords Go.Proofs.YtdaohldmojpihaaGreatDoorW.PrintLast Go.Proofs.YtdaohldmojpihaaGreatDoorW.PrintMore Go.Proofs.YtdaohldmojpihaaGreatDoorEv Go.Proofs.YtdaohldmojpihaaGreatDoor.Aps
theorem law9 : Keyed Tryz.prog 9 := string_keyed Tryz.underlying9
theorem zero3 (w : World) : (zeroValue 3).run Tryz.prog w = .ok (.int .i64 0) w := by kernel_rfl
def Tells (D : DataW Unit) (zs : List ByteArray) : Prop := IsMap D ∧ ∀ x : ByteArray, D.atKey (.string x.data.toList) (.lit (.int .i64 0)) = .lit (.int .i64 (cnt zs x : Int))
theorem tells_nil : Tells (.map []) [] := ⟨⟨[], rfl⟩, fun _ => rfl⟩
theorem tells_put {D : DataW Unit} {zs : List ByteArray} {k : Nat} (hk : k < zs.length) (hl : zs.length < 9223372036854775807) (h : Tells D (zs.take k)) {c : Int} (hc : D.atKey (.string (zs[k]?.getD ByteArray.empty).data.toList) (.lit (.int .i64 0)) = .lit (.int .i64 c)) :
    Tells (D.put (.string (zs[k]?.getD ByteArray.empty).data.toList) (.lit (.int .i64 (wrap64 (c + 1))))) (zs.take (k + 1)) := by
  have hcc : (cnt (zs.take k) (zs[k]?.getD ByteArray.empty) : Int) = c := by
    have := (h.2 _).symm.trans hc
    simpa using this
  have hle : (cnt (zs.take k) (zs[k]?.getD ByteArray.empty)) ≤ k := Nat.le_trans (cnt_le _ _) (by rw [List.length_take]; omega)
  refine ⟨h.1.put _ _, fun x => ?_⟩
  rw [cnt_take_succ zs k hk]
  by_cases hx : zs[k]?.getD ByteArray.empty = x
  · subst hx
    rw [atKey_put_same h.1 (k := .string (zs[k]?.getD ByteArray.empty).data.toList) (show True from trivial), if_pos rfl]
    congr 2
    rw [show wrap64 (c + 1) = c + 1 by unfold wrap64; omega, ← hcc]
    omega
  · rw [atKey_put_other (by intro e; injection e with e; exact hx (ByteArray.ext (Array.toList_inj.1 e)).symm), if_neg hx, h.2 x]
    rfl
set_option maxRecDepth 100000 in
set_option maxHeartbeats 4000000 in
theorem agreed_nil (f : Int) (a : Option Addr) (cap : Nat) (w : World) :
    Calls Tryz.prog 127 #[.int .i64 f, .slice a 0 cap] w fun e w' => e = .returned (.tuple #[.string ByteArray.empty, .bool false]) ∧ Below w.heap.size w w' := by
  have hmm := @run_makeMap Tryz.prog
  go_enter Tryz.func127, Tryz.ntmps127
  go_wp2
  refine wp_loop_rounds 1 ?_
  rw [rounds_succ]
  go_wp2
  refine wp_loop_rounds 1 ?_
  rw [rounds_succ]
  go_wp2
  go_ret2
  exact ⟨rfl, (Below.refl _ _).alloc (Nat.le_refl _) _⟩
set_option maxRecDepth 100000 in
set_option maxHeartbeats 4000000 in
theorem agreed_some (f : Int) (ad : Addr) (cap : Nat) (zs : List ByteArray) (w : World) (hreach : zs.length * 16 ≤ 140737488351232) (hb : ad.block < w.heap.size)
    (hc : ∀ j, j < zs.length → w.cell? (ad.add j) = some (.string (zs[j]?.getD ByteArray.empty))) (hwz : ∀ j, j < zs.length → (zs[j]?.getD ByteArray.empty).size ≤ maxLen) :
    Calls Tryz.prog 127 #[.int .i64 f, .slice (some ad) zs.length cap] w fun e w' => e = .returned (.tuple #[.string (agreed f zs).1, .bool (agreed f zs).2]) ∧ Below w.heap.size w w' := by
  have hmm := @run_makeMap Tryz.prog
  have hbest := pick_range f zs
  go_enter Tryz.func127, Tryz.ntmps127
  go_wp2
  go_loopw [18] (fun i wr => ∃ k : Nat, ∃ D, k ≤ zs.length ∧ i = .int .i64 k ∧ wr.ownsMap Tryz.prog 9 (plainElem (H := Unit) Tryz.prog 3) w.heap.size k D ∧ Tells D (zs.take k) ∧ Below w.heap.size w wr)
    (fun i _ => zs.length - (intOf i).toNat)
  case atStart => exact ⟨0, _, Nat.zero_le _, rfl, World.ownsMap_made _ _ _ _, tells_nil, (Below.refl _ _).alloc (Nat.le_refl _) _⟩
  case round =>
    obtain ⟨k, D, hk, rfl, hown, htell, hnx⟩ := hrel
    by_cases hlt : k < zs.length
    · have hput := fun c => tells_put (c := c) hlt (by omega) htell
      have hcx := (hnx.cell (p := ad.add k) (by rw [add_block]; exact hb)).trans (hc k hlt)
      have hwx := hwz k hlt
      obtain ⟨x, hx⟩ : ∃ x, zs[k]?.getD ByteArray.empty = x := ⟨_, rfl⟩
      rw [hx] at hput hcx hwx
      clear hx htell
      go_wp2_with (first
        | (at_lookup; refine wpList_lookup_own_int _ rfl _ _ 216 rfl 9 3 .i64 law9 Tryz.underlying216 Tryz.underlying3 (zero3 _) w.heap.size k D rfl hown _ _ rfl (keyOf_string_mk Tryz.underlying9 hwx) ?_; intro c hat hwc)
        | (at_mapUpdate; refine wpList_mapUpdate_own _ rfl _ _ _ 216 rfl 9 3 law9 Tryz.underlying216 _ w.heap.size k _ rfl hown (by unfold maxLen; omega) _ _ _ rfl rfl (keyOf_string_mk Tryz.underlying9 hwx) _ [] (plainElem_int Tryz.underlying3 (wrap64_wf _)) ?_; intro w1 hown1 hgrow1)
        | go_in)
      go_roundw
      case rel => exact ⟨k + 1, _, by omega, by simp, hown1, hput _ hat, hnx.grown hgrow1 hnx.size (fun j hj => by cases hj; exact Nat.le_refl _)⟩
      case measure => simp [intOf]; omega
    · obtain rfl : k = zs.length := by omega
      rw [List.take_length] at htell
      go_wp2
      go_loopw [9, 10, 29] (fun b n i ws => ∃ j : Nat, j ≤ zs.length ∧ i = .int .i64 j ∧ b = .int .i64 (pick f zs j).1 ∧ n = .int .i64 (pick f zs j).2 ∧ ws.ownsMap Tryz.prog 9 (plainElem (H := Unit) Tryz.prog 3) w.heap.size zs.length D ∧ Below w.heap.size w ws)
        (fun _ _ i _ => zs.length - (intOf i).toNat)
      case atStart => exact ⟨0, Nat.zero_le _, rfl, rfl, rfl, hown, hnx⟩
      case round =>
        obtain ⟨j, hj, rfl, rfl, rfl, hown, hnx⟩ := hrel
        by_cases hlt : j < zs.length
        · have hcx := (hnx.cell (p := ad.add j) (by rw [add_block]; exact hb)).trans (hc j hlt)
          have hwx := hwz j hlt
          have hat0 := htell.2 (zs[j]?.getD ByteArray.empty)
          have hp := pick_succ f zs j
          obtain ⟨x, hx⟩ : ∃ x, zs[j]?.getD ByteArray.empty = x := ⟨_, rfl⟩
          rw [hx] at hcx hwx hat0 hp
          clear hx
          obtain ⟨s, hs⟩ : ∃ s, pick f zs j = s := ⟨_, rfl⟩
          rw [hs] at hp
          obtain ⟨n, hn⟩ : ∃ n : Int, (cnt zs x : Int) = n := ⟨_, rfl⟩
          rw [hn] at hat0 hp
          clear hn
          rw [hs]
          by_cases h1 : f < n
          · by_cases h2 : s.2 < n
            · rw [if_pos ⟨h1, h2⟩] at hp
              go_wp2_with (first
                | (at_lookup; refine wpList_lookup_own_int _ rfl _ _ 216 rfl 9 3 .i64 law9 Tryz.underlying216 Tryz.underlying3 (zero3 _) w.heap.size _ D rfl hown _ _ rfl (keyOf_string_mk Tryz.underlying9 hwx) ?_; intro c hat hwc; obtain rfl : n = c := by simpa using hat0.symm.trans hat)
                | go_in)
              go_roundw
              case rel => exact ⟨j + 1, by omega, by simp, by rw [hp], by rw [hp], hown, hnx⟩
              case measure => simp [intOf]; omega
            · rw [if_neg (fun q => h2 q.2)] at hp
              go_wp2_with (first
                | (at_lookup; refine wpList_lookup_own_int _ rfl _ _ 216 rfl 9 3 .i64 law9 Tryz.underlying216 Tryz.underlying3 (zero3 _) w.heap.size _ D rfl hown _ _ rfl (keyOf_string_mk Tryz.underlying9 hwx) ?_; intro c hat hwc; obtain rfl : n = c := by simpa using hat0.symm.trans hat)
                | go_in)
              go_roundw
              case rel => exact ⟨j + 1, by omega, by simp, by rw [hp], by rw [hp], hown, hnx⟩
              case measure => simp [intOf]; omega
          · rw [if_neg (fun q => h1 q.1)] at hp
            go_wp2_with (first
              | (at_lookup; refine wpList_lookup_own_int _ rfl _ _ 216 rfl 9 3 .i64 law9 Tryz.underlying216 Tryz.underlying3 (zero3 _) w.heap.size _ D rfl hown _ _ rfl (keyOf_string_mk Tryz.underlying9 hwx) ?_; intro c hat hwc; obtain rfl : n = c := by simpa using hat0.symm.trans hat)
              | go_in)
            go_roundw
            case rel => exact ⟨j + 1, by omega, by simp, by rw [hp], by rw [hp], hown, hnx⟩
            case measure => simp [intOf]; omega
        · obtain rfl : j = zs.length := by omega
          have hag : agreed f zs = if (pick f zs zs.length).1 < 0 then (ByteArray.empty, false) else (zs[(pick f zs zs.length).1.toNat]?.getD ByteArray.empty, true) := rfl
          have hr := pick_range f zs zs.length
          obtain ⟨b, hb0⟩ : ∃ b, (pick f zs zs.length).1 = b := ⟨_, rfl⟩
          rw [hb0] at hr hag ⊢
          by_cases hneg : b < 0
          · rw [if_pos hneg] at hag
            go_wp2
            go_ret2
            refine ⟨?_, hnx⟩; first | rfl | (show _ = Ending.returned (.tuple #[.string (agreed f zs).1, .bool (agreed f zs).2]); rw [hag]; first | done | rfl)
          · rw [if_neg hneg] at hag
            obtain ⟨m, rfl⟩ : ∃ m : Nat, b = m := ⟨b.toNat, by omega⟩
            have hm : m < zs.length := by omega
            have hcx := (hnx.cell (p := ad.add m) (by rw [add_block]; exact hb)).trans (hc m hm)
            rw [Int.toNat_natCast] at hag
            obtain ⟨x, hx⟩ : ∃ x, zs[m]?.getD ByteArray.empty = x := ⟨_, rfl⟩
            rw [hx] at hcx hag
            clear hx
            go_wp2
            go_ret2
            refine ⟨?_, hnx⟩; first | rfl | (show _ = Ending.returned (.tuple #[.string (agreed f zs).1, .bool (agreed f zs).2]); rw [hag]; first | done | rfl)
theorem agreed_calls (f : Int) (A1 : Option Addr) (c1 : Nat) (l1 : List ByteArray) (w : World) (hr1 : Kd.C Kd.string w A1 l1.length l1) (hl : l1.length * 16 ≤ 140737488351232) (hw : ∀ x ∈ l1, x.size ≤ maxLen) :
    Calls Tryz.prog 127 #[.int .i64 f, .slice A1 l1.length c1] w fun e w' => e = .returned (.tuple #[.string (agreed f l1).1, .bool (agreed f l1).2]) ∧ Below w.heap.size w w' := by
  cases hn : l1.length with
  | zero =>
    have : l1 = [] := List.eq_nil_of_length_eq_zero hn
    subst this
    exact agreed_nil f A1 c1 w
  | succ n =>
    have h0 : 0 < l1.length := by omega
    rw [← hn]
    obtain ⟨_, _, hp⟩ := hr1
    obtain ⟨ad, rfl, hrow⟩ := hp h0
    have hc : ∀ j, j < l1.length → w.cell? (ad.add j) = some (.string (l1[j]?.getD ByteArray.empty)) := fun j hj => by
      obtain ⟨c, _, hK, hcc⟩ := hrow j _ (List.getElem?_eq_getElem hj)
      have hK' : c = [Value.string (l1[j])] := hK
      have := hcc 0 (.string (l1[j])) (by rw [hK']; rfl)
      rw [List.getElem?_eq_getElem hj]
      simpa [Kd.string, Kd.scalar] using this
    have hb := World.block_lt_of_cell? w _ (hc 0 h0)
    rw [add_block] at hb
    exact agreed_some f ad c1 l1 w hl hb hc (fun j hj => by
      rw [List.getElem?_eq_getElem hj]
      exact hw _ (List.getElem_mem hj))
end Go.Proofs.YtdaohldmojpihaaGreatDoor.Ags

namespace Go.Proofs.YtdaohldmojpihaaGreatDoor.Vt
open Go.RowKit Go.Proofs.YtdaohldmojpihaaGreatDoorW.PrintWords Go.Proofs.YtdaohldmojpihaaGreatDoorW.PrintLast Go.Proofs.YtdaohldmojpihaaGreatDoorW.PrintMore Go.Proofs.YtdaohldmojpihaaGreatDoorEv Go.Proofs.YtdaohldmojpihaaGreatDoor.X
set_option linter.unusedVariables false
set_option linter.unusedSimpArgs false
open Go.Proofs.YtdaohldmojpihaaGreatDoor.G (Lp flL gd Good_calls Clone_calls)
def keyB (l : List Lp) : ByteArray := ⟨(keyL l).toArray⟩
def okT (l : List Lp) : Prop := l.length ≤ 4096 ∧ ∀ x ∈ l, okE x
theorem in_tab {w0 w : World} {A : Option Addr} {ts : List (List Lp)} (h : Kd.C (Kd.slice 72 k72) w0 A ts.length ts) (hb : Below w0.heap.size w0 w) (k : Nat) (hk : k < ts.length) :
    ∃ ad A0 c0, A = some ad ∧ w.cell? (ad.add k) = some (.slice A0 ts[k].length c0) ∧ ts[k].length ≤ c0 ∧ Kd.C k72 w A0 ts[k].length ts[k] := by
  obtain ⟨ad, c, e, _, hK, hc0⟩ := Kd.C_get (Kd.C_below h hb) ([] : List Lp) (k : Int) (by omega) (by omega)
  have hg : ts.getD ((k : Int).toNat) [] = ts[k] := by simp [List.getD_eq_getElem?_getD, hk]
  rw [hg] at hK
  obtain ⟨A0, c0, rfl, l0, g0⟩ := hK
  have hq : w.cell? (ad.add ((k : Int).toNat * 1 + 0)) = _ := hc0 0 _ rfl
  exact ⟨ad, A0, c0, e, by simpa using hq, l0, g0⟩
set_option maxRecDepth 100000 in
set_option maxHeartbeats 4000000 in
theorem same_calls (A : Option Addr) (c : Nat) (l : List Lp) (bx : Nat) (key : ByteArray) (w : World) (hr : Kd.C k72 w A l.length l) (ht : Tb w) (hok : okT l) (hbx : w.cell? ⟨bx, 0, none⟩ = some (.string key)) (r : Bool) (he : decide (keyB l = key) = r) :
    Calls Tryz.prog 129 #[.slice A l.length c, .pointer (some ⟨bx, 0, none⟩)] w fun e w' => e = .returned (.bool r) ∧ Hid (Below w.heap.size w w') := by
  have hlt : bx < w.heap.size := World.block_lt_of_cell? w _ hbx
  have HK := Lib.hid (fun W (hb : Below w.heap.size w W) => Key_calls A c l W (Kd.C_below hr hb) (ht.below hb) hok.2 hok.1)
  have he' : ((⟨(keyL l).toArray⟩ : ByteArray).toList == key.toList) = r := by
    rw [← he, Bool.eq_iff_iff, Lib.bytes_beq_iff, decide_eq_true_iff]
    exact Iff.rfl
  obtain ⟨n, hn⟩ : ∃ n, l.length = n := ⟨_, rfl⟩
  rw [hn] at HK ⊢
  clear hr ht hok hn he
  generalize (⟨(keyL l).toArray⟩ : ByteArray) = kl at HK he'
  go_enter Tryz.func129, Tryz.ntmps129
  go_wp2
  go_region_held3 (fun w' => w'.cell? ⟨bx, 0, none⟩ = some (.string key))
    (first | exact hbx | exact pw_cell_below HB.out hbx | go_keep)
    (first
      | (go_at_call 126; refine (HK.out _ ?h1).mono ?_; (case h1 => first | exact Below.refl _ _ | exact pw_below_drewN (Below.refl _ _) 1); rintro e w1 ⟨rfl, hb⟩; have HB := Lib.hid hb; clear hb))
  go_wp2
  go_ret
  refine ⟨?_, ?_⟩
  · rfl
  · exact Lib.hid (show Below w.heap.size w w1 from ⟨HB.out.os, HB.out.tape, HB.out.output, HB.out.size, HB.out.block⟩)
def idxK (ts : List (List Lp)) (key : ByteArray) : Nat := ts.findIdx (fun t => decide (keyB t = key))
set_option maxRecDepth 100000 in
set_option maxHeartbeats 4000000 in
theorem IndexTab_calls (A : Option Addr) (c : Nat) (ts : List (List Lp)) (bx : Nat) (key : ByteArray) (w : World) (hr : Kd.C (Kd.slice 72 k72) w A ts.length ts) (ht : Tb w) (hok : ∀ t ∈ ts, okT t) (hl : ts.length ≤ 4096) (hbx : w.cell? ⟨bx, 0, none⟩ = some (.string key)) (hin : idxK ts key < ts.length) :
    Calls Tryz.prog 128 #[.slice A ts.length c, .func (.func 129) #[] #[.pointer (some ⟨bx, 0, none⟩)]] w fun e w' => e = .returned (.int .i64 (idxK ts key)) ∧ Hid (Below w.heap.size w w') := by
  have R := Lib.hid hr
  have T := Lib.hid ht
  have O := Lib.hid hok
  have BX := Lib.hid hbx
  obtain ⟨n, hn⟩ : ∃ n, ts.length = n := ⟨_, rfl⟩
  have HN := Lib.hid hn
  obtain ⟨z, hz⟩ : ∃ z, idxK ts key = z := ⟨_, rfl⟩
  have HZ := Lib.hid hz
  rw [hn, hz] at hin
  rw [hn] at hl ⊢
  rw [hz]
  clear hr ht hok hbx hn hz
  go_enter Tryz.func128, Tryz.ntmps128
  go_wp2
  go_loopw [8] (fun v8 wr => ∃ k : Nat, k ≤ z ∧ v8 = .int .i64 k ∧ Hid (Below w.heap.size w wr)) (fun v8 _ => n - (intOf v8).toNat)
  case atStart => exact ⟨0, by omega, rfl, Lib.hid (Below.refl _ _)⟩
  case round =>
    obtain ⟨k, hk, rfl, HB⟩ := hrel
    have hkl : k < ts.length := by rw [HN.out]; omega
    have hk1 : (k : Int) < (n : Int) := by omega
    have hs1 : -9223372036854775808 ≤ (k : Int) + 1 := by omega
    have hs2 : (k : Int) + 1 ≤ 9223372036854775807 := by omega
    obtain ⟨ad, A0, c0, e, hc, hlc, hC⟩ := in_tab R.out HB.out k hkl
    cases e
    have HM : Hid (ts[k] ∈ ts) := Lib.hid (List.getElem_mem hkl)
    obtain ⟨r, hr⟩ : ∃ r, decide (keyB ts[k] = key) = r := ⟨_, rfl⟩
    have HRE := Lib.hid hr
    have HS := Lib.hid (same_calls A0 c0 ts[k] bx key _ hC (T.out.below HB.out) (O.out _ HM.out) (pw_cell_below HB.out BX.out) r hr)
    generalize ts[k].length = m at hc hlc HS
    clear hC hr HM
    by_cases hkz : k < z
    · have hrf : r = false := by
        have := List.not_of_lt_findIdx (p := fun t => decide (keyB t = key)) (xs := ts) (i := k) (by have := HZ.out; unfold idxK at this; omega)
        rw [← HRE.out]
        simpa using this
      subst hrf
      clear hlc
      go_wp2_with fail
      refine HS.out.mono ?_
      rintro e w' ⟨rfl, hb⟩
      go_wp2
      go_roundw
      case rel => exact ⟨k + 1, by omega, by simp, Lib.hid (HB.out.trans (hb.out.mono HB.out.size))⟩
      case measure => simp [intOf]; omega
    · obtain rfl : k = z := by omega
      have hrf : r = true := by
        rw [← HRE.out]
        have e := HZ.out
        unfold idxK at e
        subst e
        exact List.findIdx_getElem (p := fun t => decide (keyB t = key)) (w := hkl)
      subst hrf
      clear hlc hkz
      go_wp2_with fail
      refine HS.out.mono ?_
      rintro e w' ⟨rfl, hb⟩
      go_wp2
      go_ret
      exact ⟨rfl, Lib.hid (HB.out.trans (hb.out.mono HB.out.size))⟩
end Go.Proofs.YtdaohldmojpihaaGreatDoor.Vt

namespace Go.Proofs.YtdaohldmojpihaaGreatDoor.Vt
open Go.RowKit Go.Proofs.YtdaohldmojpihaaGreatDoorW.PrintWords Go.Proofs.YtdaohldmojpihaaGreatDoorW.PrintLast Go.Proofs.YtdaohldmojpihaaGreatDoorW.PrintMore Go.Proofs.YtdaohldmojpihaaGreatDoorEv Go.Proofs.YtdaohldmojpihaaGreatDoor.X
set_option linter.unusedVariables false
set_option linter.unusedSimpArgs false
open Go.Proofs.YtdaohldmojpihaaGreatDoor.G (Lp flL gd Good_calls Clone_calls)
theorem info9 : (Tryz.prog.info? 9).map (fun i => (i.zero, i.size, i.bytes)) = some (some (.string ByteArray.empty), 1, 16) := by kernel_rfl
def keysL (ts : List (List Lp)) : List ByteArray := (ts.filter gd).map keyB
theorem keys_snoc (ts : List (List Lp)) (t : List Lp) : keysL (ts ++ [t]) = if gd t = true then keysL ts ++ [keyB t] else keysL ts := by
  unfold keysL
  rw [List.filter_append, List.map_append]
  by_cases h : gd t = true
  · rw [if_pos h, List.filter_cons_of_pos h]
    rfl
  · rw [if_neg h, List.filter_cons_of_neg h]
    simp
theorem keys_len (ts : List (List Lp)) : (keysL ts).length ≤ ts.length := by
  unfold keysL
  rw [List.length_map]
  exact List.length_filter_le _ _
theorem reps_strs (W : World) (xs : List ByteArray) : Reps (Kd.string.K W) Kd.string.sz xs (xs.map Value.string) := by
  refine ⟨by simp [Kd.string, Kd.scalar], fun j q hq => ?_⟩
  show ((xs.map Value.string).drop (j * 1)).take 1 = [Value.string q]
  rw [Nat.mul_one, List.drop_eq_getElem_cons (by rw [List.length_map]; exact (List.getElem?_eq_some_iff.1 hq).1)]
  simp [(List.getElem?_eq_some_iff.1 hq).2]
def agr (F : Int) (ts : List (List Lp)) : ByteArray × Bool := Aps.agreed F (keysL ts)
def adoptP (F : Int) (own : List Lp) (ts : List (List Lp)) : List Lp × Bool := if (agr F ts).2 = true then (ts.getD (idxK ts (agr F ts).1) [], true) else (own, false)
theorem keyB_size {t : List Lp} (h : okT t) : (keyB t).size ≤ 4096 * 42 := by
  show (keyL t).toArray.size ≤ _
  rw [List.size_toArray]
  exact Nat.le_trans (key_len t h.2) (Nat.mul_le_mul_right _ h.1)
theorem agr_in {F : Int} {ts : List (List Lp)} (h : (agr F ts).2 = true) : idxK ts (agr F ts).1 < ts.length := by
  have hm : (agr F ts).1 ∈ keysL ts := by
    unfold agr Aps.agreed at h ⊢
    split at h
    · cases h
    · rename_i hn
      rw [if_neg hn]
      obtain ⟨h1, _, _⟩ := (Aps.pick_best F (keysL ts) (keysL ts).length).some (by omega)
      rw [List.getElem?_eq_getElem h1]
      exact List.getElem_mem h1
  unfold keysL at hm
  obtain ⟨t, ht, e⟩ := List.mem_map.1 hm
  unfold idxK
  rw [List.findIdx_lt_length]
  exact ⟨t, (List.mem_filter.1 ht).1, decide_eq_true e⟩
set_option maxRecDepth 100000 in
set_option maxHeartbeats 8000000 in
theorem Adopt_calls (a0 F a2 a3 a4 a5 a6 a7 a8 a9 a10 a11 : Int) (A0 : Option Addr) (c0 : Nat) (own : List Lp) (A1 : Option Addr) (c1 : Nat) (ts : List (List Lp)) (w : World) (hr0 : Kd.C k72 w A0 own.length own) (hr1 : Kd.C (Kd.slice 72 k72) w A1 ts.length ts) (ht : Tb w) (hown : own.length ≤ 4096) (hok : ∀ t ∈ ts, okT t) (hl : ts.length ≤ 4096) :
    Calls Tryz.prog 74 #[.agg #[.int .i64 a0, .int .i64 F, .int .i64 a2, .int .i64 a3, .int .i64 a4, .int .i64 a5, .int .i64 a6, .int .i64 a7, .int .i64 a8, .int .i64 a9, .int .i64 a10, .int .i64 a11], .slice A0 own.length c0, .slice A1 ts.length c1] w fun e w' =>
      ∃ u, e = .returned (.tuple #[u, .bool (adoptP F own ts).2]) ∧ w'.ownsRow w.heap.size 72 2 u (adoptP F own ts).1.length (flL (adoptP F own ts).1) ∧ Below w.heap.size w w' := by
  have R0 := Lib.hid hr0
  have R1 := Lib.hid hr1
  have T := Lib.hid ht
  have OW := Lib.hid hown
  have O := Lib.hid hok
  obtain ⟨n0, hn0⟩ : ∃ n0, own.length = n0 := ⟨_, rfl⟩
  obtain ⟨n, hn⟩ : ∃ n, ts.length = n := ⟨_, rfl⟩
  have HN0 := Lib.hid hn0
  have HN := Lib.hid hn
  rw [hn] at hl ⊢
  rw [hn0]
  clear hr0 hr1 ht hown hok hn hn0
  go_enter Tryz.func74, Tryz.ntmps74
  go_wp2
  have HB0 : Hid (Below w.heap.size w (w.alloc (.cells #[.int .i64 a0, .int .i64 F, .int .i64 a2, .int .i64 a3, .int .i64 a4, .int .i64 a5, .int .i64 a6, .int .i64 a7, .int .i64 a8, .int .i64 a9, .int .i64 a10, .int .i64 a11] 23 (0, 0)))) := Lib.hid (below_alloc (Below.refl _ _) _)
  have HF0 : Hid ((w.alloc (.cells #[.int .i64 a0, .int .i64 F, .int .i64 a2, .int .i64 a3, .int .i64 a4, .int .i64 a5, .int .i64 a6, .int .i64 a7, .int .i64 a8, .int .i64 a9, .int .i64 a10, .int .i64 a11] 23 (0, 0))).cell? ⟨w.heap.size, 1, none⟩ = some (.int .i64 F)) := Lib.hid (blk_cell (blk_new w _) 1)
  generalize w.alloc (.cells #[.int .i64 a0, .int .i64 F, .int .i64 a2, .int .i64 a3, .int .i64 a4, .int .i64 a5, .int .i64 a6, .int .i64 a7, .int .i64 a8, .int .i64 a9, .int .i64 a10, .int .i64 a11] 23 (0, 0)) = w1 at HB0 HF0 ⊢
  have R0' := Lib.hid (Kd.C_below R0.out HB0.out)
  have R1' := Lib.hid (Kd.C_below R1.out HB0.out)
  have T' := Lib.hid (T.out.below HB0.out)
  obtain ⟨pb, hpb⟩ : ∃ pb, w.heap.size = pb := ⟨_, rfl⟩
  rw [hpb] at HF0 ⊢
  have HPB := Lib.hid hpb
  clear R0 R1 T hpb
  go_loopw [8, 16] (fun v8 v16 wr => ∃ (k : Nat) (u : Value), k ≤ n ∧ v16 = .int .i64 k ∧ u = v8 ∧ Hid (Below w1.heap.size w1 wr) ∧ Hid (wr.ownsRow w1.heap.size 9 1 u (keysL (ts.take k)).length ((keysL (ts.take k)).map .string))) (fun v8 v16 _ => n - (intOf v16).toNat)
  case atStart => exact ⟨0, _, by omega, rfl, rfl, Lib.hid (Below.refl _ _), Lib.hid (World.ownsRow_nil _ _ _ _)⟩
  case round =>
    obtain ⟨k, u, hk, rfl, hu, HB, HO⟩ := hrel
    subst hu
    by_cases hlt : k < n
    · have hkl : k < ts.length := by rw [HN.out]; exact hlt
      have hk1 : (k : Int) < (n : Int) := by omega
      have hs1 : -9223372036854775808 ≤ (k : Int) + 1 := by omega
      have hs2 : (k : Int) + 1 ≤ 9223372036854775807 := by omega
      obtain ⟨ad, B0, d0, e, hc, hlc, hC⟩ := in_tab R1'.out HB.out k hkl
      cases e
      have HTK : Hid (ts.take (k + 1) = ts.take k ++ [ts[k]]) := Lib.hid (List.take_succ_eq_append_getElem hkl)
      have HOT : Hid (okT ts[k]) := Lib.hid (O.out _ (List.getElem_mem hkl))
      have HG := Lib.hid (Good_calls B0 d0 ts[k] _ hC)
      have HK := Lib.hid (fun W hb => Key_calls B0 d0 ts[k] W (Kd.C_below hC hb) ((T'.out.below HB.out).below hb) HOT.out.2 HOT.out.1)
      generalize ts[k] = t at hc HTK HOT HG HK
      have HKB : Hid ((⟨(keyL t).toArray⟩ : ByteArray) = keyB t) := Lib.hid rfl
      generalize (⟨(keyL t).toArray⟩ : ByteArray) = kb at HK HKB
      obtain ⟨g, hg⟩ : ∃ g, gd t = g := ⟨_, rfl⟩
      have HGD := Lib.hid hg
      rw [hg] at HG
      generalize t.length = m at hc HG HK
      have HQ : Hid ((keysL (ts.take k)).length ≤ k) := Lib.hid (Nat.le_trans (keys_len _) (by rw [List.length_take]; omega))
      clear hC hlc hg
      cases g with
      | true =>
        go_wp2_with (first
          | (go_at_call 48; refine HG.out.mono ?_; rintro e w2 ⟨rfl, hb2_⟩; have HB2 := Lib.hid hb2_; clear hb2_)
          | (go_at_call 126; refine (HK.out _ HB2.out).mono ?_; rintro e w3 ⟨rfl, hb3⟩; have HB3 := Lib.hid hb3; clear hb3)
          | (at_builtin; refine print_append_cells (w0 := w3) w1.heap.size rfl _ _ 176 9 (.string ByteArray.empty) 1 16 rfl Tryz.underlying176 info9 rfl (by decide) (by decide) u (keysL (ts.take k)).length ((keysL (ts.take k)).map .string) [.string kb] rfl rfl rfl (by simp [Value.oneCell']) (pw_own_below (pw_own_below HO.out HB2.out) HB3.out) ⟨rfl, rfl, rfl, Nat.le_refl _, fun _ _ => rfl⟩ (Nat.le_trans HB.out.size (Nat.le_trans HB2.out.size HB3.out.size)) (by have := HQ.out; omega) ?_; intro u' w4 hown' hB4 hgrow hat))
        go_roundw
        case rel =>
          refine ⟨k + 1, u', by omega, by simp, rfl, Lib.hid ?_, Lib.hid ?_⟩
          · exact ((HB.out.trans (HB2.out.mono HB.out.size)).trans (HB3.out.mono (Nat.le_trans HB.out.size HB2.out.size))).trans hB4
          · rw [HTK.out, keys_snoc, if_pos HGD.out, List.map_append, List.length_append, ← HKB.out]
            exact hown'
        case measure => simp [intOf]; omega
      | false =>
        go_wp2_with (go_at_call 48; refine HG.out.mono ?_; rintro e w2 ⟨rfl, hb2_⟩; have HB2 := Lib.hid hb2_; clear hb2_)
        go_roundw
        case rel =>
          refine ⟨k + 1, u, by omega, by simp, rfl, Lib.hid (HB.out.trans (HB2.out.mono HB.out.size)), Lib.hid ?_⟩
          rw [HTK.out, keys_snoc, if_neg (by rw [HGD.out]; decide)]
          exact pw_own_below HO.out HB2.out
        case measure => simp [intOf]; omega
    · obtain rfl : k = n := by omega
      have hkt : ts.take k = ts := List.take_of_length_le (by rw [HN.out]; exact Nat.le_refl _)
      rw [hkt] at HO
      clear hkt
      obtain ⟨A2, c2, hu, hrd⟩ := own_reads_row HO.out (reps_strs _ _) rfl
      subst hu
      have HAG : Hid (∀ W, Below _ _ W → Calls Tryz.prog 127 #[.int .i64 F, .slice A2 (keysL ts).length c2] W fun e w' => e = .returned (.tuple #[.string (agr F ts).1, .bool (agr F ts).2]) ∧ Below W.heap.size W w') := Lib.hid (fun W hb => Ags.agreed_calls F A2 c2 (keysL ts) W (Kd.C_below hrd hb) (by have := keys_len ts; have := HN.out; omega) (fun x hx => by
        unfold keysL at hx
        obtain ⟨t, ht, rfl⟩ := List.mem_map.1 hx
        exact Nat.le_trans (keyB_size (O.out t (List.mem_filter.1 ht).1)) (by unfold maxLen; omega)))
      have hcf := pw_cell_below HB.out HF0.out
      obtain ⟨b, hb⟩ : ∃ b, (agr F ts).2 = b := ⟨_, rfl⟩
      have HBE := Lib.hid hb
      obtain ⟨ky, hky⟩ : ∃ ky, (agr F ts).1 = ky := ⟨_, rfl⟩
      have HKY := Lib.hid hky
      rw [hb, hky] at HAG
      have HLK : Hid ((keysL ts).length ≤ ts.length) := Lib.hid (keys_len ts)
      generalize (keysL ts).length = q at HO HAG HLK
      have HA := Lib.hid (show adoptP F own ts = if b = true then (ts.getD (idxK ts ky) [], true) else (own, false) by unfold adoptP; rw [hb, hky])
      clear hb hky hrd
      cases b with
      | false =>
        have HC0 := Lib.hid (fun W hb => Clone_calls A0 c0 own W (Kd.C_below R0'.out hb) OW.out)
        rw [HN0.out] at HC0
        go_wp2_with (first
          | (go_at_call 127; refine (HAG.out _ (Below.refl _ _)).mono ?_; rintro e w2 ⟨rfl, hb2⟩; have HB2 := Lib.hid hb2; clear hb2)
          | (go_at_call 47; refine (HC0.out _ ?h1).mono ?_; (case h1 => exact (HB.out.trans (HB2.out.mono HB.out.size)).trans ((below_alloc (Below.refl _ _) _).mono (Nat.le_trans HB.out.size HB2.out.size))); rintro e w3 ⟨u3, rfl, ho3, hb3⟩; have HO3 := Lib.hid ho3; have HB3 := Lib.hid hb3; clear ho3 hb3))
        go_ret2
        have hA := HA.out
        rw [if_neg (by decide)] at hA
        rw [hA]
        refine ⟨u3, rfl, ?_, ?_⟩
        · rw [HN0.out]
          refine own_weaken HO3.out ?_
          have := HB0.out.size
          have := HB.out.size
          have := HB2.out.size
          simp
          omega
        · refine ((HB0.out.trans (HB.out.mono HB0.out.size)).trans (HB2.out.mono (Nat.le_trans HB0.out.size HB.out.size))).trans ?_
          have hz : w.heap.size ≤ w2.heap.size := Nat.le_trans HB0.out.size (Nat.le_trans HB.out.size HB2.out.size)
          exact ((below_alloc (Below.refl _ _) _).mono hz).trans (HB3.out.mono (by simp; omega))
      | true =>
        have hin := agr_in HBE.out
        rw [HKY.out] at hin
        obtain ⟨z, hz⟩ : ∃ z, idxK ts ky = z := ⟨_, rfl⟩
        have hzl : z < ts.length := by rw [← hz]; exact hin
        obtain ⟨ad, e⟩ : ∃ ad, A1 = some ad := by
          obtain ⟨ad, _, _, e, _⟩ := in_tab R1'.out (Below.refl _ _) z hzl
          exact ⟨ad, e⟩
        cases e
        have HIX := Lib.hid (fun W (hb : Below w1.heap.size w1 W) (bx : Nat) (hbx : W.cell? ⟨bx, 0, none⟩ = some (.string ky)) => IndexTab_calls (some ad) c1 ts bx ky W (Kd.C_below R1'.out hb) (T'.out.below hb) O.out (by rw [HN.out]; exact hl) hbx hin)
        rw [hz, HN.out] at HIX
        have HEL := Lib.hid (fun W (hb : Below w1.heap.size w1 W) => in_tab R1'.out hb z hzl)
        have HOZ : Hid (ts[z].length ≤ 4096) := Lib.hid (O.out _ (List.getElem_mem hzl)).1
        have HAT : Hid (adoptP F own ts = (ts[z], true)) := Lib.hid (by
          rw [HA.out, if_pos rfl, hz]
          simp [List.getD_eq_getElem?_getD, hzl])
        generalize ts[z] = t at HEL HOZ HAT
        have hzn : (z : Int) < (k : Int) := by rw [← HN.out]; omega
        have hz0 : (0 : Int) ≤ (z : Int) := by omega
        clear hin hz hzl
        go_wp2_with (first
          | (go_at_call 127; refine (HAG.out _ (Below.refl _ _)).mono ?_; rintro e w2 ⟨rfl, hb2⟩; have HB2 := Lib.hid hb2; clear hb2; have HW2 := Lib.hid (HB.out.trans (HB2.out.mono HB.out.size)))
          | (go_at_call 128; refine (HIX.out _ ?h1 w2.heap.size ?h2).mono ?_; (case h1 => exact HW2.out.trans ((below_alloc (Below.refl _ _) _).mono HW2.out.size)); (case h2 => exact blk_cell (blk_new w2 _) 0); rintro e w3 ⟨rfl, HB3⟩; have HW3 := Lib.hid (HW2.out.trans (((below_alloc (Below.refl _ _) (.cells #[.string ky] 9 (0, 0))).mono HW2.out.size).trans (HB3.out.mono (by have := HW2.out.size; simp; omega)))); obtain ⟨ad', B1, d1, e1, hc1, hlc1, hC1⟩ := HEL.out w3 HW3.out; cases e1)
          | (go_at_call 47; refine (Clone_calls B1 d1 t w3 hC1 HOZ.out).mono ?_; rintro e w4 ⟨u4, rfl, ho4, hb4⟩; have HO4 := Lib.hid ho4; have HB4 := Lib.hid hb4; clear ho4 hb4))
        go_ret2
        rw [HAT.out]
        refine ⟨u4, rfl, own_weaken HO4.out (Nat.le_trans HB0.out.size HW3.out.size), ?_⟩
        exact (HB0.out.trans (HW3.out.mono HB0.out.size)).trans (HB4.out.mono (Nat.le_trans HB0.out.size HW3.out.size))
end Go.Proofs.YtdaohldmojpihaaGreatDoor.Vt

namespace Go.Proofs.YtdaohldmojpihaaGreatDoor.G
open Go.RowKit Go.Proofs.YtdaohldmojpihaaGreatDoorW.PrintWords Go.Proofs.YtdaohldmojpihaaGreatDoorW.PrintLast Go.Proofs.YtdaohldmojpihaaGreatDoorW.PrintMore Go.Proofs.YtdaohldmojpihaaGreatDoorPl Go.Proofs.YtdaohldmojpihaaGreatDoorEm Go.Proofs.YtdaohldmojpihaaGreatDoorKr Go.Proofs.YtdaohldmojpihaaGreatDoorRz Go.Proofs.YtdaohldmojpihaaGreatDoor.X Go.Proofs.YtdaohldmojpihaaGreatDoorAy
set_option linter.unusedVariables false
set_option linter.unusedSimpArgs false
def heldP (F : Int) (l : List Int) : Int × Bool := if So.has F l = true then (moreP (So.least F l), true) else (1073741824, false)
theorem Held_calls (p : Par) (A : Option Addr) (c : Nat) (l : List Int) (w : World) (hr : Kd.C (Kd.int .i64) w A l.length l) (hl : l.length ≤ 4096) :
    Calls Tryz.prog 73 #[.agg #[.int .i64 p.N, .int .i64 p.F, .int .i64 p.D, .int .i64 p.Be, .int .i64 p.Rho, .int .i64 p.De, .int .i64 p.Ji, .int .i64 p.Eps, .int .i64 p.Mu, .int .i64 p.Ho, .int .i64 p.Pu, .int .i64 p.Se], .slice A l.length c] w fun e w' => e = .returned (.tuple #[.int .i64 (heldP p.F l).1, .bool (heldP p.F l).2]) ∧ Below w.heap.size w w' := by
  have H := Fr.start0 (M := fun _ => False) (A := fun _ => False) (w := w) (p := fun W => Kd.C (Kd.int .i64) W A l.length l) (fun _ h => h.elim) (Go.Proofs.YtdaohldmojpihaaGreatDoorEv.Tr.of_C hr (Kd.heap_int .i64))
  have HF := Lib.hid (fun W h => So.least_calls p.F A l.length c l W h (by omega))
  have HP := Lib.hid (show heldP p.F l = if So.has p.F l = true then (moreP (So.least p.F l), true) else (1073741824, false) from rfl)
  obtain ⟨n, hn⟩ : ∃ n, l.length = n := ⟨_, rfl⟩
  obtain ⟨b, hb⟩ : ∃ b, So.has p.F l = b := ⟨_, rfl⟩
  obtain ⟨x, hx⟩ : ∃ b, So.least p.F l = b := ⟨_, rfl⟩
  rw [hn, hb, hx] at HF
  rw [hb, hx] at HP
  rw [hn] at H ⊢
  clear hr hl hn hb hx
  cases b
  all_goals
    go_enter Tryz.func73, Tryz.ntmps73
    go_wp2_with (first
      | (go_at_call 125; (with_reducible refine (HF.out _ H.now).mono ?_); rintro e w' ⟨rfl, hb⟩; have H1 := H.call hb; clear hb; replace H := H1; clear H1)
      | (go_at_call 35; (with_reducible refine (More_calls _ _).mono ?_); rintro e w' ⟨rfl, hb⟩; have H1 := H.call hb; clear hb; replace H := H1; clear H1)
      | ((with_reducible refine gate_dst (N := 2) rfl ?_); refine nB H ?_; clear H; intro g2 w2 H)
      | ((with_reducible refine gL rfl ?_); refine xL H ?_)
      | fail)
    go_ret2
    exact ⟨(by rw [HP.out]; try rfl), H.below⟩
def uC (h : Hd) : Bool := h.good && !decide (h.hi < h.lo)
def toldN (N : Int) (l : List Hd) : List Hd := unB (told N (-1) l)
def coreL (N : Int) (l : List Hd) : List Hd := (toldN N l).filter uC
def spW (p : Par) (h : Hd) : Sp := ⟨(wayP p h.lo h.hi h.age).1, (wayP p h.lo h.hi h.age).2⟩
def coreF (p : Par) (l : List Hd) : Int × Int × Bool := fuse p.F ((coreL p.N l).map (spW p))
def coreS (p : Par) (tb : Hd → List Lp) (l : List Hd) (nx : St) : St :=
  if (coreF p l).2.2 = true then { nx with lo := (coreF p l).1, hi := (coreF p l).2.1, hops := 0, good := true, held := (heldP p.F ((coreL p.N l).map (·.held))).1, tab := (Vt.adoptP p.F nx.tab ((coreL p.N l).map tb)).1 } else nx
def coreB (p : Par) (l : List Hd) : Bool := (coreF p l).2.2
def slT (h : Hd) : Value := .slice h.A h.n h.c
def TbW (tb : Hd → List Lp) (l : List Hd) (W : World) : Prop := ∀ h ∈ l, Kd.C k72 W h.A h.n (tb h)
def tbOk (tb : Hd → List Lp) (l : List Hd) : Prop := ∀ h ∈ l, h.n = (tb h).length ∧ h.n ≤ h.c ∧ Vt.okT (tb h)
theorem reps_tabs {W : World} {tb : Hd → List Lp} {l : List Hd} (h : TbW tb l W) (ho : tbOk tb l) : Reps ((Kd.slice 72 k72).K W) (Kd.slice 72 k72).sz (l.map tb) (l.map slT) := by
  refine ⟨by simp [Kd.slice], fun j q hq => ?_⟩
  show (Kd.slice 72 k72).K W q (((l.map slT).drop (j * 1)).take 1)
  rw [List.getElem?_map, Option.map_eq_some_iff] at hq
  obtain ⟨x, hx, rfl⟩ := hq
  have hj := (List.getElem?_eq_some_iff.1 hx).1
  have hm : x ∈ l := List.mem_of_getElem? hx
  rw [Nat.mul_one, List.drop_eq_getElem_cons (by rw [List.length_map]; exact hj)]
  have e1 : (l.map slT)[j]'(by rw [List.length_map]; exact hj) = slT x := by
    rw [List.getElem_map, (List.getElem?_eq_some_iff.1 hx).2]
  rw [e1, List.take_succ_cons, List.take_zero]
  have h1 := ho x hm
  exact ⟨x.A, x.c, by unfold slT; rw [h1.1], by rw [← h1.1]; exact h1.2.1, by rw [← h1.1]; exact h x hm⟩
theorem firsts_mem (N me : Int) : ∀ (l : List Hd) (x : Hb), x ∈ firsts N me l → x.h ∈ l := by
  suffices h : ∀ (l : List Hd) (out : List Hb) (x : Hb), x ∈ l.foldl (addT N me) out → x ∈ out ∨ x.h ∈ l by
    intro l x hx
    rcases h l [] x hx with q | q
    · cases q
    · exact q
  intro l
  induction l with
  | nil => intro out x hx; exact .inl hx
  | cons a l ih =>
    intro out x hx
    rcases ih _ x hx with q | q
    · unfold addT at q
      split at q
      · rcases List.mem_append.1 q with q | q
        · exact .inl q
        · rw [List.mem_singleton.1 q]; exact .inr List.mem_cons_self
      · exact .inl q
    · exact .inr (List.mem_cons_of_mem _ q)
theorem toldN_mem {N : Int} {l : List Hd} {x : Hd} (h : x ∈ toldN N l) : x ∈ l := by
  obtain ⟨y, hy, rfl⟩ := List.mem_map.1 h
  exact firsts_mem N (-1) l y ((sortB_spec _).1.mem_iff.1 hy)
theorem toldN_len (N : Int) (l : List Hd) : (toldN N l).length ≤ 16 := by
  unfold toldN unB told
  rw [List.length_map, sortB_length]
  exact firsts_len N (-1) l
theorem coreL_mem {N : Int} {l : List Hd} {x : Hd} (h : x ∈ coreL N l) : x ∈ l := toldN_mem (List.mem_filter.1 h).1
theorem infoI : (Tryz.prog.info? 3).map (fun i => (i.zero, i.size, i.bytes)) = some (some (.int .i64 0), 1, 8) := by kernel_rfl
theorem infoT : (Tryz.prog.info? 26).map (fun i => (i.zero, i.size, i.bytes)) = some (some (.slice none 0 0), 1, 24) := by kernel_rfl
theorem rowt_of {P : Program} {t e : TypeId} {z : Value} {sz bytes : Nat} (ht : P.underlying t = some (.slice e)) (hi : (P.info? e).map (fun i => (i.zero, i.size, i.bytes)) = some (some z, sz, bytes)) (hz : z.cells.size = sz) (h0 : 0 < sz) : RowT P t e sz bytes := by
  obtain ⟨i0, hi0, hz0, hz1, hz2⟩ := info_parts hi
  exact ⟨i0, z, ht, hi0, hz0, hz1, hz2, hz, h0⟩
theorem rtS : RowT Tryz.prog 122 25 2 16 := rowt_of Tryz.underlying122 infoS rfl (by decide)
theorem rtI : RowT Tryz.prog 56 3 1 8 := rowt_of Tryz.underlying56 infoI rfl (by decide)
def pcN (tb : Hd → List Lp) (Al : Option Addr) (l : List Hd) (A2 : Option Addr) (tt : List Lp) (W : World) : Prop := RowH W Al l ∧ TbW tb l W ∧ Vt.Tb W ∧ Kd.C k72 W A2 tt.length tt
def orS (p : Par) (A : Option Addr) (c m : Nat) (l : List Hd) : OR := ⟨25, 2, A, m, c, flS (l.map (spW p))⟩
def orI (A : Option Addr) (c m : Nat) (l : List Hd) : OR := ⟨3, 1, A, m, c, l.map (fun h => .int .i64 h.held)⟩
def orT (A : Option Addr) (c m : Nat) (l : List Hd) : OR := ⟨26, 1, A, m, c, l.map slT⟩
def orH (A : Option Addr) (c m : Nat) (l : List Hd) : OR := ⟨45, 15, A, m, c, flH l⟩
theorem orS_more (p : Par) (A : Option Addr) (c m : Nat) (l : List Hd) (x : Hd) (A1 : Option Addr) (c1 : Nat) : (orS p A c m l).more A1 c1 [.int .i64 (wayP p x.lo x.hi x.age).1, .int .i64 (wayP p x.lo x.hi x.age).2] = orS p A1 c1 (m + 1) (l ++ [x]) := by
  unfold orS OR.more
  rw [List.map_append, List.map_cons, List.map_nil, flS_snoc]
  rfl
theorem orI_more (A : Option Addr) (c m : Nat) (l : List Hd) (x : Hd) (A1 : Option Addr) (c1 : Nat) : (orI A c m l).more A1 c1 [.int .i64 x.held] = orI A1 c1 (m + 1) (l ++ [x]) := by
  unfold orI OR.more
  rw [List.map_append, List.map_cons, List.map_nil]
theorem orT_more (A : Option Addr) (c m : Nat) (l : List Hd) (x : Hd) (A1 : Option Addr) (c1 : Nat) : (orT A c m l).more A1 c1 [.slice x.A x.n x.c] = orT A1 c1 (m + 1) (l ++ [x]) := by
  unfold orT OR.more
  rw [List.map_append, List.map_cons, List.map_nil]
  rfl
theorem ints_row {b : Nat} {W : World} {A : Option Addr} {c m : Nat} {l : List Hd} (h : (orI A c m l).own b W) (hm : l.length = m) : Kd.C (Kd.int .i64) W A m (l.map (·.held)) := by
  have h1 : W.ownsRow b 3 1 (.slice A m c) m ((l.map (·.held)).map (Value.int .i64)) := by
    have := own_val h
    rw [List.map_map]
    exact this
  obtain ⟨A1, c1, e, hr⟩ := own_reads_row h1 (Go.Proofs.YtdaohldmojpihaaGreatDoorEv.reps_ints W (l.map (·.held))) (by rw [List.length_map, hm])
  injection e with e1
  rw [e1]
  exact hr
theorem spans_row {p : Par} {b : Nat} {W : World} {A : Option Addr} {c m : Nat} {l : List Hd} (h : (orS p A c m l).own b W) (hm : l.length = m) : m ≤ c ∧ Kd.C k25 W A m (l.map (spW p)) := rowS_C (own_val h) (by rw [List.length_map, hm])
theorem tabs_row {tb : Hd → List Lp} {b : Nat} {W : World} {A : Option Addr} {c m : Nat} {l : List Hd} (h : (orT A c m l).own b W) (hm : l.length = m) (ht : TbW tb l W) (ho : tbOk tb l) : Kd.C (Kd.slice 72 k72) W A m (l.map tb) := by
  obtain ⟨A1, c1, e, hr⟩ := own_reads_row (own_val h) (reps_tabs ht ho) (by rw [List.length_map, hm]; rfl)
  have e' : Value.slice A m c = .slice A1 m c1 := e
  injection e' with e1
  rw [e1]
  exact hr
theorem Adopt_core (p : Par) {tb : Hd → List Lp} {b : Nat} {W : World} {A0 A : Option Addr} {c0 c m : Nat} {l : List Hd} {tt : List Lp} (h : (orT A c m l).own b W) (hm : l.length = m) (hm16 : m ≤ 16) (ht : TbW tb l W) (ho : tbOk tb l) (hb : Vt.Tb W) (hr : Kd.C k72 W A0 tt.length tt) (hl : tt.length ≤ 4096) :
    Calls Tryz.prog 74 #[.agg #[.int .i64 p.N, .int .i64 p.F, .int .i64 p.D, .int .i64 p.Be, .int .i64 p.Rho, .int .i64 p.De, .int .i64 p.Ji, .int .i64 p.Eps, .int .i64 p.Mu, .int .i64 p.Ho, .int .i64 p.Pu, .int .i64 p.Se], .slice A0 tt.length c0, .slice A m c] W fun e w' => ∃ u, e = .returned (.tuple #[u, .bool (Vt.adoptP p.F tt (l.map tb)).2]) ∧ w'.ownsRow W.heap.size 72 2 u (Vt.adoptP p.F tt (l.map tb)).1.length (flL (Vt.adoptP p.F tt (l.map tb)).1) ∧ Below W.heap.size W w' := by
  have := Vt.Adopt_calls p.N p.F p.D p.Be p.Rho p.De p.Ji p.Eps p.Mu p.Ho p.Pu p.Se A0 c0 tt A c (l.map tb) W hr (by rw [List.length_map, hm]; exact tabs_row h hm ht ho) hb hl (fun t h => by
    obtain ⟨x, hx, rfl⟩ := List.mem_map.1 h
    exact (ho x hx).2.2) (by rw [List.length_map, hm]; omega)
  rw [List.length_map, hm] at this
  exact this
end Go.Proofs.YtdaohldmojpihaaGreatDoor.G

namespace Go.Proofs.YtdaohldmojpihaaGreatDoor.G
open Go.RowKit Go.Proofs.YtdaohldmojpihaaGreatDoorW.PrintWords Go.Proofs.YtdaohldmojpihaaGreatDoorW.PrintLast Go.Proofs.YtdaohldmojpihaaGreatDoorW.PrintMore Go.Proofs.YtdaohldmojpihaaGreatDoorPl Go.Proofs.YtdaohldmojpihaaGreatDoorEm Go.Proofs.YtdaohldmojpihaaGreatDoorKr Go.Proofs.YtdaohldmojpihaaGreatDoorRz Go.Proofs.YtdaohldmojpihaaGreatDoor.X Go.Proofs.YtdaohldmojpihaaGreatDoorAy
set_option linter.unusedVariables false
set_option linter.unusedSimpArgs false
theorem Told_of {D : Nat → Prop} {W : World} {tb : Hd → List Lp} {Al : Option Addr} {l : List Hd} {A2 : Option Addr} {tt : List Lp} {q : World → Prop} (h : Tr D W (fun W => pcN tb Al l A2 tt W ∧ q W)) : Tr (fun _ => False) W (fun W => RowH W Al l) :=
  Tr.less (Foot.imp h (fun _ h => h.1.1)) (fun _ _ h => h.elim)
set_option maxRecDepth 100000 in
set_option maxHeartbeats 16000000 in
theorem core_calls (p : Par) (s : St) (A : Option Addr) (c g : Nat) {tG : TypeId} (me : List Value) (D : Nat → Prop) (tb : Hd → List Lp) (Al : Option Addr) (cl : Nat) (l : List Hd) (nx : St) (A2 : Option Addr) (c2 : Nat) (w : World) (hg : w.heap[g]? = some (.cells (.int .i64 p.N :: .int .i64 p.F :: .int .i64 p.D :: .int .i64 p.Be :: .int .i64 p.Rho :: .int .i64 p.De :: .int .i64 p.Ji :: .int .i64 p.Eps :: .int .i64 p.Mu :: .int .i64 p.Ho :: .int .i64 p.Pu :: .int .i64 p.Se :: .int .i64 s.lo :: .int .i64 s.hi :: .int .i64 s.time :: .bool s.set :: .int .i64 s.held :: .int .i64 s.hops :: .bool s.good :: .slice A s.tab.length c :: .int .i64 s.st :: .int .i64 s.sn :: .int .i64 s.life :: me).toArray tG (0, 0))) (hD : D g ∧ ∀ k, D k → k < w.heap.size) (hr : Tr D w (pcN tb Al l A2 nx.tab)) (ho : tbOk tb l) (hl : l.length ≤ 4096) (hlt : nx.tab.length ≤ 4096) :
    Calls Tryz.prog 32 #[.pointer (some ⟨g, 0, none⟩), .slice Al l.length cl, .agg #[.int .i64 nx.lo, .int .i64 nx.hi, .int .i64 nx.time, .bool nx.set, .int .i64 nx.held, .int .i64 nx.hops, .bool nx.good, .slice A2 nx.tab.length c2, .int .i64 nx.st, .int .i64 nx.sn, .int .i64 nx.life]] w fun e w' => ∃ A3 c3, e = .returned (.tuple #[.agg #[.int .i64 (coreS p tb l nx).lo, .int .i64 (coreS p tb l nx).hi, .int .i64 (coreS p tb l nx).time, .bool (coreS p tb l nx).set, .int .i64 (coreS p tb l nx).held, .int .i64 (coreS p tb l nx).hops, .bool (coreS p tb l nx).good, .slice A3 (coreS p tb l nx).tab.length c3, .int .i64 (coreS p tb l nx).st, .int .i64 (coreS p tb l nx).sn, .int .i64 (coreS p tb l nx).life], .bool (coreB p l)]) ∧ Below w.heap.size w w' ∧ Tr D w' (fun W => Kd.C k72 W A3 (coreS p tb l nx).tab.length (coreS p tb l nx).tab) := by
  have hgl := Go.Proofs.YtdaohldmojpihaaGreatDoorEm.obj_lt hg
  have H0 := Fr.start1 (M := fun k => k = g) (A := D) (p := pcN tb Al l A2 nx.tab) hD.2 hg rfl (Tr.less hr (fun k _ q => q.elim id (fun e => e ▸ hD.1)))
  have H := Fr.starts H0
  have HR0 := Lib.hid hr
  have HG := Lib.hid hg
  have HD := Lib.hid hD
  have HOK := Lib.hid ho
  obtain ⟨lo, hi, time, set, held, hops, good, tab, st, sn, life⟩ := s
  obtain ⟨nlo, nhi, ntime, nset, nheld, nhops, ngood, ntab, nst, nsn, nlife⟩ := nx
  dsimp only at H HR0 HG hlt ⊢
  obtain ⟨n, hn⟩ : ∃ n, tab.length = n := ⟨_, rfl⟩
  obtain ⟨nt, hnt⟩ : ∃ n, ntab.length = n := ⟨_, rfl⟩
  obtain ⟨nl, hnl⟩ : ∃ n, l.length = n := ⟨_, rfl⟩
  obtain ⟨T, hT⟩ : ∃ T, toldN p.N l = T := ⟨_, rfl⟩
  obtain ⟨m, hm⟩ : ∃ m, T.length = m := ⟨_, rfl⟩
  have hm16 : m ≤ 16 := by rw [← hm, ← hT]; exact toldN_len _ _
  have HT := Lib.hid hT
  have HM := Lib.hid hm
  have HNT := Lib.hid hnt
  have KTold : Hid (∀ W, Tr (fun _ => False) W (fun W => RowH W Al l) → Calls Tryz.prog 70 #[.agg #[.int .i64 p.N, .int .i64 p.F, .int .i64 p.D, .int .i64 p.Be, .int .i64 p.Rho, .int .i64 p.De, .int .i64 p.Ji, .int .i64 p.Eps, .int .i64 p.Mu, .int .i64 p.Ho, .int .i64 p.Pu, .int .i64 p.Se], .int .i64 (-1), .slice Al nl cl] W fun e w' => ∃ v, e = .returned v ∧ w'.ownsRow W.heap.size 45 15 v m (flH T) ∧ Below W.heap.size W w') := Lib.hid (fun W h => by
    have := Told_calls p (-1) Al cl l W h hl
    have e1 : (told p.N (-1) l).length = m := by rw [← hm, ← hT]; unfold toldN unB; rw [List.length_map]
    have e2 : unB (told p.N (-1) l) = T := hT
    rw [hnl, e1, e2] at this
    exact this)
  have HL := Lib.hid (And.intro hl hlt)
  rw [hn] at H HG
  rw [hnl, hnt]
  clear hg hr hl hlt hn hnt hnl hT hm hD ho H0
  go_enter Tryz.func32, Tryz.ntmps32
  go_wp2_with (first
    | (go_at_call 70; (with_reducible refine (KTold.out _ (Told_of H.tr)).mono ?_); rintro e w' ⟨v1, rfl, ho, hb⟩; obtain ⟨Av, cv, rfl⟩ := own_shapeO ho; have H1 := Fr.joinO H hb (r := orH Av cv m T) ho; clear ho hb; replace H := H1; clear H1)
    | ((with_reducible refine gate_dst (N := 5) rfl ?_); refine nB H ?_; clear H; intro g5 w5 H)
    | ((with_reducible refine gate_dst (N := 6) rfl ?_); refine nA #[.int .i64 0, .int .i64 0, .int .i64 0, .bool false, .int .i64 0, .int .i64 0, .bool false, .slice none 0 0, .int .i64 0, .int .i64 0, .int .i64 0] 30 H ?_; clear H; intro g6 w6 H)
    | ((with_reducible refine gL rfl ?_); refine xL H ?_)
    | fail)
  have H1 := Fr.emptyO 25 2 (Fr.emptyO 3 1 (Fr.emptyO 26 1 H))
  clear H
  have H := H1
  clear H1
  go_loopw [8, 9, 10, 23] (fun v8 v9 v10 v23 wr => ∃ (k mm : Nat) (cs : List Hd) (As : Option Addr) (ca : Nat) (Ah : Option Addr) (ch : Nat) (At : Option Addr) (ct : Nat), k ≤ m ∧ v23 = .int .i64 k ∧ v8 = .slice As mm ca ∧ v9 = .slice Ah mm ch ∧ v10 = .slice At mm ct ∧ mm ≤ k ∧ Hid (cs.length = mm) ∧ Hid ((T.take k).filter uC = cs) ∧ Fr (fun k => k = g) D w wr [(g6, .cells #[.int .i64 0, .int .i64 0, .int .i64 0, .bool false, .int .i64 0, .int .i64 0, .bool false, .slice none 0 0, .int .i64 0, .int .i64 0, .int .i64 0] 30 (0, 0)), (g5, .cells #[.int .i64 nlo, .int .i64 nhi, .int .i64 ntime, .bool nset, .int .i64 nheld, .int .i64 nhops, .bool ngood, .slice A2 nt c2, .int .i64 nst, .int .i64 nsn, .int .i64 nlife] 30 (0, 0)), (g, .cells (.int .i64 p.N :: .int .i64 p.F :: .int .i64 p.D :: .int .i64 p.Be :: .int .i64 p.Rho :: .int .i64 p.De :: .int .i64 p.Ji :: .int .i64 p.Eps :: .int .i64 p.Mu :: .int .i64 p.Ho :: .int .i64 p.Pu :: .int .i64 p.Se :: .int .i64 lo :: .int .i64 hi :: .int .i64 time :: .bool set :: .int .i64 held :: .int .i64 hops :: .bool good :: .slice A n c :: .int .i64 st :: .int .i64 sn :: .int .i64 life :: me).toArray tG (0, 0))] (fun W => pcN tb Al l A2 ntab W ∧ owns w.heap.size [orS p As ca mm cs, orI Ah ch mm cs, orT At ct mm cs, orH Av cv m T] W)) (fun _ _ _ v23 _ => m - (intOf v23).toNat)
  case atStart => exact ⟨0, 0, [], none, 0, none, 0, none, 0, by omega, rfl, rfl, rfl, rfl, by omega, Lib.hid rfl, Lib.hid rfl, H⟩
  case round =>
    clear H
    obtain ⟨k, mm, cs, As, ca, Ah, ch, At_, ct, hk, rfl, rfl, rfl, rfl, hmm, HCL, HF, H⟩ := hrel
    by_cases hlt : k < m
    · have hkl : k < T.length := by rw [HM.out]; exact hlt
      have hk1 : (k : Int) < (m : Int) := by omega
      have hs1 : -9223372036854775808 ≤ (k : Int) + 1 := by omega
      have hs2 : (k : Int) + 1 ≤ 9223372036854775807 := by omega
      obtain ⟨ad, e, hx⟩ := rowH_own (H.now.2 (orH Av cv m T) (by simp)) k hkl
      cases e
      obtain ⟨x, hxe⟩ : ∃ x, T[k] = x := ⟨_, rfl⟩
      rw [hxe] at hx
      have HTK : Hid ((T.take (k + 1)).filter uC = cs ++ (if uC x = true then [x] else [])) := Lib.hid (by
        rw [List.take_succ_eq_append_getElem hkl, hxe, List.filter_append, HF.out]
        by_cases h : uC x = true
        · rw [if_pos h, List.filter_cons_of_pos h]; rfl
        · rw [if_neg h, List.filter_cons_of_neg h]; rfl)
      obtain ⟨⟨y1, y2⟩, hy⟩ : ∃ y, wayP p x.lo x.hi x.age = y := ⟨_, rfl⟩
      have HY := Lib.hid hy
      have KWay : Hid (∀ W, Calls Tryz.prog 71 #[.agg #[.int .i64 p.N, .int .i64 p.F, .int .i64 p.D, .int .i64 p.Be, .int .i64 p.Rho, .int .i64 p.De, .int .i64 p.Ji, .int .i64 p.Eps, .int .i64 p.Mu, .int .i64 p.Ho, .int .i64 p.Pu, .int .i64 p.Se], .agg #[.int .i64 x.lo, .int .i64 x.hi], .int .i64 x.age] W fun e w' => e = .returned (.agg #[.int .i64 y1, .int .i64 y2]) ∧ Below W.heap.size W w') := Lib.hid (fun W => by have := Way_calls p x.lo x.hi x.age W; rw [hy] at this; exact this)
      obtain ⟨iT, hiT, zT0, zT1, zT2⟩ := info_parts infoT
      clear hxe hy
      obtain ⟨kind, frm, xlo, xhi, xheld, xhops, xgood, ref, slo, shi, pulse, xst, xsn, Ax, xn, xc, age⟩ := x
      have HC := Lib.hid hx
      clear hx
      simp only [encH] at HC
      dsimp only at HY KWay
      cases xgood with
      | false =>
        go_wp2_with (first
          | ((with_reducible refine gate_dst (N := 26) rfl ?_); refine load_cells rfl rfl (ad := ad.add (k * 15)) (cs := [.int .i64 kind, .int .i64 frm, .int .i64 xlo, .int .i64 xhi, .int .i64 xheld, .int .i64 xhops, .bool _, .bool ref, .int .i64 slo, .int .i64 shi, .int .i64 pulse, .int .i64 xst, .int .i64 xsn, .slice Ax xn xc, .int .i64 age]) ?hx Tryz.underlying45 rfl (by kernel_rfl) HC.out ?_; (case hx => first | rfl | (go_simp; done) | (go_simp; rfl)))
          | ((with_reducible refine gate_dst (N := 12) rfl ?_); refine nA #[.int .i64 0, .int .i64 0, .int .i64 0, .int .i64 0, .int .i64 0, .int .i64 0, .bool false, .bool false, .int .i64 0, .int .i64 0, .int .i64 0, .int .i64 0, .int .i64 0, .slice none 0 0, .int .i64 0] 45 H ?_; clear H; intro g12 w12 H)
          | ((with_reducible refine gS rfl ?_); refine xS H ?_; clear H; intro w_ H)
          | ((with_reducible refine gL rfl ?_); (try (refine gate_guard (by rfl) ?_; dsimp only)); refine xL H ?_)
          | (go_at_call 43; (with_reducible refine (Empty_calls _ _ _).mono ?_); rintro e w' ⟨rfl, hb⟩; have H1 := H.call hb; clear hb; replace H := H1; clear H1)
          | fail)
        go_roundw
        case rel => exact ⟨k + 1, mm, cs, As, ca, Ah, ch, At_, ct, by omega, by simp, rfl, rfl, rfl, by omega, HCL, Lib.hid (HTK.out.trans (by simp [uC])), H.drop⟩
        case measure => simp [intOf]; omega
      | true =>
        cases hd : decide (xhi < xlo) with
        | true =>
          go_wp2_with (first
            | ((with_reducible refine gate_dst (N := 26) rfl ?_); refine load_cells rfl rfl (ad := ad.add (k * 15)) (cs := [.int .i64 kind, .int .i64 frm, .int .i64 xlo, .int .i64 xhi, .int .i64 xheld, .int .i64 xhops, .bool _, .bool ref, .int .i64 slo, .int .i64 shi, .int .i64 pulse, .int .i64 xst, .int .i64 xsn, .slice Ax xn xc, .int .i64 age]) ?hx Tryz.underlying45 rfl (by kernel_rfl) HC.out ?_; (case hx => first | rfl | (go_simp; done) | (go_simp; rfl)))
            | ((with_reducible refine gate_dst (N := 12) rfl ?_); refine nA #[.int .i64 0, .int .i64 0, .int .i64 0, .int .i64 0, .int .i64 0, .int .i64 0, .bool false, .bool false, .int .i64 0, .int .i64 0, .int .i64 0, .int .i64 0, .int .i64 0, .slice none 0 0, .int .i64 0] 45 H ?_; clear H; intro g12 w12 H)
            | ((with_reducible refine gS rfl ?_); refine xS H ?_; clear H; intro w_ H)
            | ((with_reducible refine gL rfl ?_); (try (refine gate_guard (by rfl) ?_; dsimp only)); refine xL H ?_)
            | (go_at_call 43; (with_reducible refine (Empty_calls _ _ _).mono ?_); rintro e w' ⟨rfl, hb⟩; have H1 := H.call hb; clear hb; replace H := H1; clear H1)
            | fail)
          go_roundw
          case rel => exact ⟨k + 1, mm, cs, As, ca, Ah, ch, At_, ct, by omega, by simp, rfl, rfl, rfl, by omega, HCL, Lib.hid (HTK.out.trans (by simp [uC, hd])), H.drop⟩
          case measure => simp [intOf]; omega
        | false =>
          go_upto_region 8 with (first
            | ((with_reducible refine gate_dst (N := 26) rfl ?_); refine load_cells rfl rfl (ad := ad.add (k * 15)) (cs := [.int .i64 kind, .int .i64 frm, .int .i64 xlo, .int .i64 xhi, .int .i64 xheld, .int .i64 xhops, .bool true, .bool ref, .int .i64 slo, .int .i64 shi, .int .i64 pulse, .int .i64 xst, .int .i64 xsn, .slice Ax xn xc, .int .i64 age]) ?hx Tryz.underlying45 rfl (by kernel_rfl) HC.out ?_; (case hx => first | rfl | (go_simp; done) | (go_simp; rfl)))
            | ((with_reducible refine gate_dst (N := 12) rfl ?_); refine nA #[.int .i64 0, .int .i64 0, .int .i64 0, .int .i64 0, .int .i64 0, .int .i64 0, .bool false, .bool false, .int .i64 0, .int .i64 0, .int .i64 0, .int .i64 0, .int .i64 0, .slice none 0 0, .int .i64 0] 45 H ?_; clear H; intro g12 w12 H)
            | ((with_reducible refine gS rfl ?_); refine xS H ?_; clear H; intro w_ H)
            | ((with_reducible refine gL rfl ?_); (try (refine gate_guard (by rfl) ?_; dsimp only)); refine xL H ?_)
            | (go_at_call 43; (with_reducible refine (Empty_calls _ _ _).mono ?_); rintro e w' ⟨rfl, hb⟩; have H1 := H.call hb; clear hb; replace H := H1; clear H1)
            | fail)
          have HX := H.drewN 1
          have H1 := H.imp (fun _ h => h.1)
          clear H
          have H := H1
          clear H1
          refine ro_start (Frs _ _ _ _ _) [] [0, 1, 2, 3, 4, 5, 6, 7, 8, 9, 10, 14, 15, 16, 17, 11, 12, 13, 18, 19, 20, 21] 22 (by kernel_rfl) (by rfl) (by simp only [pickR, List.getElem?_cons_succ, List.getElem?_cons_zero]; rfl) (by rfl) (H.drewN 1) (fun HS => ?_)
          have H1 : Fr _ _ _ _ _ _ := HS
          clear HS H
          have H := H1
          clear H1
          repeat ((first
            | ((with_reducible refine rz_dst (N := 49) rfl ?_); refine zR H ?_; clear H; intro x49 w1 hx49 H)
            | ((with_reducible refine rz_dst (N := 55) rfl ?_); refine zR H ?_; clear H; intro x55 w1 hx55 H)
            | ((with_reducible refine rz_load rfl ?_); refine zL H ?_)
            | (refine zO ?_)
            | (refine zP ?_)); (try simp only [Act.put, lsA, lsZ, lsS, Nat.reduceAdd]))
          refine ro_app2 (p := pcN tb Al l A2 ntab) (D := D) (r1 := orS p As ca mm cs) (r2 := orI Ah ch mm cs) (rx := [orT At_ ct mm cs, orH (some ad) cv m T]) (cs1 := [.int .i64 y1, .int .i64 y2]) (cs2 := [.int .i64 xheld]) (wv := .agg #[.int .i64 y1, .int .i64 y2]) (z1 := u48) (z2 := u49) (z3 := u50) (z4 := u55) (z5 := u56) 48 49 50 55 56 11 12 13 18 19 HX HR0.out (fun k e => e ▸ HD.out.1) (fun k h => h) (hS := fun W h => h) (he := by show (25 : Nat) ≠ 3; decide) (hx := fun q hq => ?types)
            (kc := fun v4 v5 W K hF h => wp_enter 71 #[.agg #[.int .i64 p.N, .int .i64 p.F, .int .i64 p.D, .int .i64 p.Be, .int .i64 p.Rho, .int .i64 p.De, .int .i64 p.Ji, .int .i64 p.Eps, .int .i64 p.Mu, .int .i64 p.Ho, .int .i64 p.Pu, .int .i64 p.Se], .agg #[.int .i64 xlo, .int .i64 xhi], .int .i64 age] rfl Tryz.func71 (by kernel_rfl) rfl (by simp only [acA, Act.put, lsA, lsZ, lsS, Nat.reduceAdd, List.map_toArray, List.map_cons, List.map_nil]; rfl) ((KWay.out W).mono (fun e w' he => ⟨_, he.1, h _ he.2⟩)))
            (s1 := .tmp 37) (x1 := .tmp 49) (s2 := .tmp 51) (x2 := .tmp 55) (t1 := 122) (t2 := 56) (ht1 := rtS) (ht2 := rtI) (ho1 := flS_one y1 y2) (ho2 := fun q hq => by rw [List.mem_singleton.1 hq]; rfl) (hm1 := by show mm + 1 ≤ _ ∧ (mm + 1) * 16 ≤ _; unfold maxLen; omega) (hm2 := by show mm + 1 ≤ _ ∧ (mm + 1) * 8 ≤ _; unfold maxLen; omega) (hend := ?rest)
          case types =>
            simp only [List.mem_cons, List.not_mem_nil, or_false] at hq
            rcases hq with rfl | rfl
            · exact ⟨show (26 : Nat) ≠ 25 by decide, show (26 : Nat) ≠ 3 by decide⟩
            · exact ⟨show (45 : Nat) ≠ 25 by decide, show (45 : Nat) ≠ 3 by decide⟩
          case rest =>
            intro v2 v4 A1 c1 A3 c3 W HN
            clear H HX
            have H := HN
            clear HN
            simp only [acA, Act.put, lsA, lsZ, lsS, Nat.reduceAdd]
            repeat ((refine zP ?_); (try simp only [Act.put, lsA, lsZ, lsS, Nat.reduceAdd]))
            refine ro_done (by kernel_rfl) ?_
            go_wp2_with (first
              | (at_builtin; refine wpList_append_own_at _ rfl _ _ 123 rfl w.heap.size 26 iT _ 1 24 Tryz.underlying123 hiT zT0 zT1 zT2 rfl (by decide) (.slice At_ mm ct) mm (cs.map slT) rfl (own_val (H.now.2 (orT At_ ct mm cs) (by simp))) ⟨x61, 0, none⟩ 1 1 [.slice Ax xn xc] rfl rfl ?hn ?h1 (by unfold maxLen; omega) (by omega) H.chg.size ?_; (case hn => exact new_cells (H.of At.head)); (case h1 => exact (fun q hq => by rw [List.mem_singleton.1 hq]; rfl)); intro v6 w6 hown hgrow hnil hat)
              | ((with_reducible refine gate_dst (N := 61) rfl ?_); refine nR H ?_; clear H; intro x61 w61 H)
              | ((with_reducible refine gL rfl ?_); refine xL H ?_)
              | fail)
            obtain ⟨A6, c6, rfl⟩ := own_shapeO hown
            have eS := orS_more p As ca mm cs ⟨kind, frm, xlo, xhi, xheld, xhops, true, ref, slo, shi, pulse, xst, xsn, Ax, xn, xc, age⟩ A1 c1
            have eI := orI_more Ah ch mm cs ⟨kind, frm, xlo, xhi, xheld, xhops, true, ref, slo, shi, pulse, xst, xsn, Ax, xn, xc, age⟩ A3 c3
            have eT := orT_more At_ ct mm cs ⟨kind, frm, xlo, xhi, xheld, xhops, true, ref, slo, shi, pulse, xst, xsn, Ax, xn, xc, age⟩ A6 c6
            dsimp only at eS eI eT
            rw [HY.out] at eS
            have HF2 := Fr.growO (r := orT At_ ct mm cs) (r' := (orT At_ ct mm cs).more A6 c6 [.slice Ax xn xc]) (rs' := [(orS p As ca mm cs).more A1 c1 [.int .i64 y1, .int .i64 y2], (orI Ah ch mm cs).more A3 c3 [.int .i64 xheld], (orT At_ ct mm cs).more A6 c6 [.slice Ax xn xc], orH (some ad) cv m T]) H HR0.out (fun k e => e ▸ HD.out.1) (fun k h => h) (by simp) (fun q hq => ?ty2) hown hat hgrow
            case ty2 =>
              simp only [List.mem_cons, List.not_mem_nil, or_false] at hq
              rcases hq with rfl | rfl | rfl | rfl
              · exact .inr ⟨by simp, show (25 : Nat) ≠ 26 by decide⟩
              · exact .inr ⟨by simp, show (3 : Nat) ≠ 26 by decide⟩
              · exact .inl rfl
              · exact .inr ⟨by simp, show (45 : Nat) ≠ 26 by decide⟩
            rw [eS, eI, eT] at HF2
            exact ⟨⟨k + 1, mm + 1, cs ++ [⟨kind, frm, xlo, xhi, xheld, xhops, true, ref, slo, shi, pulse, xst, xsn, Ax, xn, xc, age⟩], A1, c1, A3, c3, A6, c6, by omega, rfl, rfl, rfl, rfl, by omega, Lib.hid (by rw [List.length_append, HCL.out]; rfl), Lib.hid (HTK.out.trans (by simp [uC, hd])), HF2.drop.drop⟩, by simp [intOf]; omega⟩
    · obtain rfl : k = m := by omega
      have HCO : Hid (coreL p.N l = cs) := Lib.hid (by rw [← HF.out, List.take_of_length_le (by rw [HM.out]; exact Nat.le_refl _), ← HT.out]; rfl)
      obtain ⟨⟨f1, f2, f3⟩, hf⟩ : ∃ y, coreF p l = y := ⟨_, rfl⟩
      obtain ⟨⟨hh, hb⟩, hhe⟩ : ∃ y, heldP p.F (cs.map (·.held)) = y := ⟨_, rfl⟩
      obtain ⟨⟨tt, tb2⟩, hat⟩ : ∃ y, Vt.adoptP p.F ntab (cs.map tb) = y := ⟨_, rfl⟩
      obtain ⟨kk, hkk⟩ : ∃ n, tt.length = n := ⟨_, rfl⟩
      have HKK := Lib.hid hkk
      have HCB : Hid (coreB p l = f3) := Lib.hid (by unfold coreB; rw [hf])
      have HCS : Hid (coreS p tb l ⟨nlo, nhi, ntime, nset, nheld, nhops, ngood, ntab, nst, nsn, nlife⟩ = if f3 = true then ⟨f1, f2, ntime, nset, hh, 0, true, tt, nst, nsn, nlife⟩ else ⟨nlo, nhi, ntime, nset, nheld, nhops, ngood, ntab, nst, nsn, nlife⟩) := Lib.hid (by
        unfold coreS
        rw [hf, HCO.out, hhe, hat])
      have KF : Hid (∀ W, (orS p As ca mm cs).own w.heap.size W → Calls Tryz.prog 72 #[.agg #[.int .i64 p.N, .int .i64 p.F, .int .i64 p.D, .int .i64 p.Be, .int .i64 p.Rho, .int .i64 p.De, .int .i64 p.Ji, .int .i64 p.Eps, .int .i64 p.Mu, .int .i64 p.Ho, .int .i64 p.Pu, .int .i64 p.Se], .slice As mm ca] W fun e w' => e = .returned (.tuple #[.agg #[.int .i64 f1, .int .i64 f2], .bool f3]) ∧ Below W.heap.size W w') := Lib.hid (fun W h => by
        have hs := spans_row h HCL.out
        have := AFuse_calls p As ca (cs.map (spW p)) W (by rw [List.length_map, HCL.out]; exact hs.2) (by rw [List.length_map, HCL.out]; exact hs.1) (by rw [List.length_map, HCL.out]; omega)
        rw [List.length_map, HCL.out, ← HCO.out] at this
        rw [show fuse p.F ((coreL p.N l).map (spW p)) = (f1, f2, f3) from hf] at this
        exact this)
      have KH : Hid (∀ W, (orI Ah ch mm cs).own w.heap.size W → Calls Tryz.prog 73 #[.agg #[.int .i64 p.N, .int .i64 p.F, .int .i64 p.D, .int .i64 p.Be, .int .i64 p.Rho, .int .i64 p.De, .int .i64 p.Ji, .int .i64 p.Eps, .int .i64 p.Mu, .int .i64 p.Ho, .int .i64 p.Pu, .int .i64 p.Se], .slice Ah mm ch] W fun e w' => e = .returned (.tuple #[.int .i64 hh, .bool hb]) ∧ Below W.heap.size W w') := Lib.hid (fun W h => by
        have := Held_calls p Ah ch (cs.map (·.held)) W (by rw [List.length_map, HCL.out]; exact ints_row h HCL.out) (by rw [List.length_map, HCL.out]; omega)
        rw [List.length_map, HCL.out, hhe] at this
        exact this)
      have KA : Hid (∀ W, pcN tb Al l A2 ntab W → (orT At_ ct mm cs).own w.heap.size W → Calls Tryz.prog 74 #[.agg #[.int .i64 p.N, .int .i64 p.F, .int .i64 p.D, .int .i64 p.Be, .int .i64 p.Rho, .int .i64 p.De, .int .i64 p.Ji, .int .i64 p.Eps, .int .i64 p.Mu, .int .i64 p.Ho, .int .i64 p.Pu, .int .i64 p.Se], .slice A2 nt c2, .slice At_ mm ct] W fun e w' => ∃ u, e = .returned (.tuple #[u, .bool tb2]) ∧ w'.ownsRow W.heap.size 72 2 u kk (flL tt) ∧ Below W.heap.size W w') := Lib.hid (fun W hp h => by
        have := Adopt_core (c0 := c2) p (tb := tb) h HCL.out (by omega) (fun x hx => hp.2.1 x (coreL_mem (HCO.out ▸ hx))) (fun x hx => HOK.out x (coreL_mem (HCO.out ▸ hx))) hp.2.2.1 hp.2.2.2 HL.out.2
        rw [hat, HNT.out] at this
        rw [← hkk]
        exact this)
      clear hf hhe hat hkk
      cases f3 with
      | false =>
        have HCQ := Lib.hid (HCS.out.trans (if_neg (by decide)))
        go_wp2_with (first
          | (go_at_call 72; (with_reducible refine (KF.out _ (owns_at H.now.2 (by simp))).mono ?_); rintro e w' ⟨rfl, hb⟩; have H1 := H.call hb; clear hb; replace H := H1; clear H1)
          | ((with_reducible refine gate_dst (N := 13) rfl ?_); refine nA #[.int .i64 0, .int .i64 0] 25 H ?_; clear H; intro g13 w13 H)
          | ((with_reducible refine gS rfl ?_); refine xS H ?_; clear H; intro w_ H)
          | ((with_reducible refine gL rfl ?_); refine xL H ?_)
          | fail)
        refine bodyPost_ret (results_ct rfl _ _ g6 30 _ (0, 0) _ rfl (H.of (by repeat (first | exact At.head | apply At.tail))) Tryz.underlying30 rfl (by kernel_rfl)) rfl ?_
        rw [HCQ.out, HCB.out]
        dsimp only
        rw [HNT.out]
        exact ⟨A2, c2, rfl, Fr.below1 H HG.out (H.of (by repeat (first | exact At.head | apply At.tail))), Foot.imp H.out (fun W h => by have := h.1.2.2.2; rw [HNT.out] at this; exact this)⟩
      | true =>
        have HCQ := Lib.hid (HCS.out.trans (if_pos rfl))
        go_upto_region 16 with (first
          | (go_at_call 72; (with_reducible refine (KF.out _ (owns_at H.now.2 (by simp))).mono ?_); rintro e w' ⟨rfl, hb⟩; have H1 := H.call hb; clear hb; replace H := H1; clear H1)
          | (go_at_call 73; (with_reducible refine (KH.out _ (owns_at H.now.2 (by simp))).mono ?_); rintro e w' ⟨rfl, hb⟩; have H1 := H.call hb; clear hb; replace H := H1; clear H1)
          | ((with_reducible refine gate_dst (N := 13) rfl ?_); refine nA #[.int .i64 0, .int .i64 0] 25 H ?_; clear H; intro g13 w13 H)
          | ((with_reducible refine gS rfl ?_); refine xS H ?_; clear H; intro w_ H)
          | ((with_reducible refine gL rfl ?_); refine xL H ?_)
          | fail)
        refine ro_start (Frs _ _ _ _ _) [8, 13] [0, 1, 2, 3, 4, 5, 6, 7, 8, 9, 10, 11, 12, 13] 14 (by kernel_rfl) (by rfl) (by simp only [pickR, List.getElem?_cons_succ, List.getElem?_cons_zero]; rfl) (by rfl) (H.drewN 1) (fun HS => ?_)
        have H1 : Fr _ _ _ _ _ _ := HS
        clear HS H
        have H := H1
        clear H1
        repeat ((first
          | ((with_reducible refine rz_call (f := 74) rfl ?_); refine ro_callL 74 _ rfl (by kernel_rfl) (by kernel_rfl) (by rfl) Tryz.func74 (by kernel_rfl) rfl (by simp only [List.map_toArray, List.map_cons, List.map_nil]; rfl) ?_; (refine (KA.out _ H.now.1 (owns_at H.now.2 (by simp))).mono ?_); rintro e w' ⟨u, rfl, ho, hb⟩; obtain ⟨A8, c8, rfl⟩ := own_shapeO ho; have H1 := Fr.joinO H hb (r := ⟨72, 2, A8, kk, c8, flL tt⟩) ho; refine ⟨_, rfl, ?_⟩; clear ho hb; replace H := H1; clear H1; (try simp only [Act.put, lsA, lsZ, lsS, Nat.reduceAdd]))
          | ((with_reducible refine rz_load rfl ?_); refine zL H ?_)
          | ((with_reducible refine rz_store rfl ?_); refine zS H ?_; clear H; intro w1 H)
          | (refine zO ?_)
          | (refine zP ?_)); (try simp only [Act.put, lsA, lsZ, lsS, Nat.reduceAdd]))
        refine ro_done (by kernel_rfl) ?_
        go_wp2_with (first
          | ((with_reducible refine gS rfl ?_); refine xS H ?_; clear H; intro w_ H)
          | ((with_reducible refine gL rfl ?_); refine xL H ?_)
          | fail)
        refine bodyPost_ret (results_ct rfl _ _ g6 30 _ (0, 0) _ rfl (H.of (by repeat (first | exact At.head | apply At.tail))) Tryz.underlying30 rfl (by kernel_rfl)) rfl ?_
        rw [HCQ.out, HCB.out]
        dsimp only
        rw [HKK.out]
        refine ⟨A8, c8, rfl, Fr.below1 H HG.out (H.of (by repeat (first | exact At.head | apply At.tail))), Foot.imp H.out (fun W h => ?_)⟩
        obtain ⟨Aq, cq, e, _, hq, _⟩ := row_C (own_val (h.2 ⟨72, 2, A8, kk, c8, flL tt⟩ (by simp))) HKK.out
        have e' : Value.slice A8 kk c8 = .slice Aq kk cq := e
        injection e' with e1
        rw [e1]
        exact hq
end Go.Proofs.YtdaohldmojpihaaGreatDoor.G

namespace Go.Proofs.YtdaohldmojpihaaGreatDoor.G
open Go.RowKit Go.Proofs.YtdaohldmojpihaaGreatDoorW.PrintWords Go.Proofs.YtdaohldmojpihaaGreatDoorW.PrintLast Go.Proofs.YtdaohldmojpihaaGreatDoorW.PrintMore Go.Proofs.YtdaohldmojpihaaGreatDoorPl Go.Proofs.YtdaohldmojpihaaGreatDoorEm Go.Proofs.YtdaohldmojpihaaGreatDoorKr Go.Proofs.YtdaohldmojpihaaGreatDoorRz Go.Proofs.YtdaohldmojpihaaGreatDoor.X Go.Proofs.YtdaohldmojpihaaGreatDoorAy
set_option linter.unusedVariables false
set_option linter.unusedSimpArgs false
def tbH (ta : Option Addr → Nat → List Lp) (h : Hd) : List Lp := ta h.A h.n
def wayH (p : Par) (h : Hd) : Hd := { h with lo := (wayP p h.lo h.hi h.age).1, hi := (wayP p h.lo h.hi h.age).2 }
def folM (p : Par) (l : List Hd) : List Hd := (l.filter (fun h => !decide (h.hi < h.lo))).map (wayH p)
def folStep (ta : Option Addr → Nat → List Lp) (nx : St) : Option Hd → St
  | none => nx
  | some m => { nx with lo := m.lo, hi := m.hi, hops := m.hops + 1, good := true, held := moreP m.held, tab := if gd (tbH ta m) = true then tbH ta m else nx.tab }
def folS (p : Par) (ta : Option Addr → Nat → List Lp) (l : List Hd) (nx : St) : St := folStep ta nx (chooseP p.D (folM p l))
def folB (p : Par) (l : List Hd) : Bool := (chooseP p.D (folM p l)).isSome
theorem ch_in {D : Int} : ∀ (l : List Hd) (s : Option Hd) (m : Hd), l.foldl (chStep D) s = some m → (s = some m) ∨ (m ∈ l ∧ usN D m = true)
  | [], s, m, h => .inl h
  | a :: l, s, m, h => by
    rcases ch_in l _ m h with q | ⟨q1, q2⟩
    · unfold chStep at q
      split at q
      · rename_i hu
        split at q
        · injection q with q; rw [← q]; exact .inr ⟨List.mem_cons_self, hu⟩
        · split at q
          · injection q with q; rw [← q]; exact .inr ⟨List.mem_cons_self, hu⟩
          · exact .inl q
      · exact .inl q
    · exact .inr ⟨List.mem_cons_of_mem _ q1, q2⟩
theorem choose_in {D : Int} {l : List Hd} {m : Hd} (h : chooseP D l = some m) : m ∈ l ∧ usN D m = true := (ch_in l none m h).resolve_left (fun e => by cases e)
theorem fol_in {p : Par} {l : List Hd} {m : Hd} (h : m ∈ folM p l) : ∃ x ∈ l, m = wayH p x := by
  obtain ⟨x, hx, e⟩ := List.mem_map.1 h
  exact ⟨x, (List.mem_filter.1 hx).1, e.symm⟩
theorem folM_snoc (p : Par) (l : List Hd) (x : Hd) : folM p (l ++ [x]) = folM p l ++ (if decide (x.hi < x.lo) = true then [] else [wayH p x]) := by
  unfold folM
  rw [List.filter_append, List.map_append]
  congr 1
  by_cases h : decide (x.hi < x.lo) = true
  · rw [if_pos h, List.filter_cons_of_neg (by rw [h]; decide)]; rfl
  · rw [if_neg h, List.filter_cons_of_pos (by simpa using h)]; rfl
theorem usN_hops {D : Int} {m : Hd} (h : usN D m = true) : 0 ≤ m.hops ∧ m.hops < D := by
  unfold usN at h
  simp only [Bool.and_eq_true, decide_eq_true_eq] at h
  exact ⟨h.1.1.2, h.1.2⟩
theorem infoM : (Tryz.prog.info? 43).map (fun i => (i.zero, i.size, i.bytes)) = some (some (.agg #[.int .i64 0, .int .i64 0, .int .i64 0, .int .i64 0, .int .i64 0, .int .i64 0, .bool false, .bool false, .int .i64 0, .int .i64 0, .int .i64 0, .int .i64 0, .int .i64 0, .slice none 0 0]), 14, 120) := by kernel_rfl
def orM (A : Option Addr) (c m : Nat) (l : List Hd) : OR := ⟨43, 14, A, m, c, flM l⟩
theorem orM_more (A : Option Addr) (c m : Nat) (l : List Hd) (x : Hd) (A1 : Option Addr) (c1 : Nat) : (orM A c m l).more A1 c1 (encM x) = orM A1 c1 (m + 1) (l ++ [x]) := by
  unfold orM OR.more
  rw [flM_snoc]
set_option maxRecDepth 100000 in
set_option maxHeartbeats 16000000 in
theorem follow_calls (p : Par) (hPD : p.D ≤ 9223372036854775807) (s : St) (A : Option Addr) (c g : Nat) {tG : TypeId} (me : List Value) (D : Nat → Prop) (ta : Option Addr → Nat → List Lp) (Al : Option Addr) (cl : Nat) (l : List Hd) (nx : St) (A2 : Option Addr) (c2 : Nat) (w : World) (hg : w.heap[g]? = some (.cells (.int .i64 p.N :: .int .i64 p.F :: .int .i64 p.D :: .int .i64 p.Be :: .int .i64 p.Rho :: .int .i64 p.De :: .int .i64 p.Ji :: .int .i64 p.Eps :: .int .i64 p.Mu :: .int .i64 p.Ho :: .int .i64 p.Pu :: .int .i64 p.Se :: .int .i64 s.lo :: .int .i64 s.hi :: .int .i64 s.time :: .bool s.set :: .int .i64 s.held :: .int .i64 s.hops :: .bool s.good :: .slice A s.tab.length c :: .int .i64 s.st :: .int .i64 s.sn :: .int .i64 s.life :: me).toArray tG (0, 0))) (hD : D g ∧ ∀ k, D k → k < w.heap.size) (hr : Tr D w (pcN (tbH ta) Al l A2 nx.tab)) (ho : tbOk (tbH ta) l) (hl : l.length ≤ 4096) :
    Calls Tryz.prog 33 #[.pointer (some ⟨g, 0, none⟩), .slice Al l.length cl, .agg #[.int .i64 nx.lo, .int .i64 nx.hi, .int .i64 nx.time, .bool nx.set, .int .i64 nx.held, .int .i64 nx.hops, .bool nx.good, .slice A2 nx.tab.length c2, .int .i64 nx.st, .int .i64 nx.sn, .int .i64 nx.life]] w fun e w' => ∃ A3 c3, e = .returned (.tuple #[.agg #[.int .i64 (folS p ta l nx).lo, .int .i64 (folS p ta l nx).hi, .int .i64 (folS p ta l nx).time, .bool (folS p ta l nx).set, .int .i64 (folS p ta l nx).held, .int .i64 (folS p ta l nx).hops, .bool (folS p ta l nx).good, .slice A3 (folS p ta l nx).tab.length c3, .int .i64 (folS p ta l nx).st, .int .i64 (folS p ta l nx).sn, .int .i64 (folS p ta l nx).life], .bool (folB p l)]) ∧ Below w.heap.size w w' ∧ Tr D w' (fun W => Kd.C k72 W A3 (folS p ta l nx).tab.length (folS p ta l nx).tab) := by
  have hgl := Go.Proofs.YtdaohldmojpihaaGreatDoorEm.obj_lt hg
  have H0 := Fr.start1 (M := fun k => k = g) (A := D) (p := pcN (tbH ta) Al l A2 nx.tab) hD.2 hg rfl (Tr.less hr (fun k _ q => q.elim id (fun e => e ▸ hD.1)))
  have H := Fr.emptyO 43 14 (Fr.starts H0)
  have HR0 := Lib.hid hr
  have HG := Lib.hid hg
  have HD := Lib.hid hD
  have HOK := Lib.hid ho
  obtain ⟨lo, hi, time, set, held, hops, good, tab, st, sn, life⟩ := s
  obtain ⟨nlo, nhi, ntime, nset, nheld, nhops, ngood, ntab, nst, nsn, nlife⟩ := nx
  dsimp only at H HR0 HG ⊢
  obtain ⟨n, hn⟩ : ∃ n, tab.length = n := ⟨_, rfl⟩
  obtain ⟨nt, hnt⟩ : ∃ n, ntab.length = n := ⟨_, rfl⟩
  obtain ⟨nl, hnl⟩ : ∃ n, l.length = n := ⟨_, rfl⟩
  have HNT := Lib.hid hnt
  have HNL := Lib.hid hnl
  have HPD := Lib.hid hPD
  rw [hn] at H HG
  rw [hnl] at hl ⊢
  rw [hnt]
  obtain ⟨iM, hiM, zM0, zM1, zM2⟩ := info_parts infoM
  clear hg hr hn hnt hnl hD ho H0 hPD
  go_enter Tryz.func33, Tryz.ntmps33
  go_wp2_with (first
    | ((with_reducible refine gate_dst (N := 5) rfl ?_); refine nB H ?_; clear H; intro g5 w5 H)
    | ((with_reducible refine gate_dst (N := 6) rfl ?_); refine nA #[.int .i64 0, .int .i64 0, .int .i64 0, .bool false, .int .i64 0, .int .i64 0, .bool false, .slice none 0 0, .int .i64 0, .int .i64 0, .int .i64 0] 30 H ?_; clear H; intro g6 w6 H)
    | fail)
  go_loopw [8, 16] (fun v8 v16 wr => ∃ (k mm : Nat) (cs : List Hd) (Am : Option Addr) (cm : Nat), k ≤ nl ∧ v16 = .int .i64 k ∧ v8 = .slice Am mm cm ∧ mm ≤ k ∧ Hid (cs.length = mm) ∧ Hid (folM p (l.take k) = cs) ∧ Fr (fun k => k = g) D w wr [(g6, .cells #[.int .i64 0, .int .i64 0, .int .i64 0, .bool false, .int .i64 0, .int .i64 0, .bool false, .slice none 0 0, .int .i64 0, .int .i64 0, .int .i64 0] 30 (0, 0)), (g5, .cells #[.int .i64 nlo, .int .i64 nhi, .int .i64 ntime, .bool nset, .int .i64 nheld, .int .i64 nhops, .bool ngood, .slice A2 nt c2, .int .i64 nst, .int .i64 nsn, .int .i64 nlife] 30 (0, 0)), (g, .cells (.int .i64 p.N :: .int .i64 p.F :: .int .i64 p.D :: .int .i64 p.Be :: .int .i64 p.Rho :: .int .i64 p.De :: .int .i64 p.Ji :: .int .i64 p.Eps :: .int .i64 p.Mu :: .int .i64 p.Ho :: .int .i64 p.Pu :: .int .i64 p.Se :: .int .i64 lo :: .int .i64 hi :: .int .i64 time :: .bool set :: .int .i64 held :: .int .i64 hops :: .bool good :: .slice A n c :: .int .i64 st :: .int .i64 sn :: .int .i64 life :: me).toArray tG (0, 0))] (fun W => pcN (tbH ta) Al l A2 ntab W ∧ owns w.heap.size [orM Am cm mm cs] W)) (fun _ v16 _ => nl - (intOf v16).toNat)
  case atStart => exact ⟨0, 0, [], none, 0, by omega, rfl, rfl, by omega, Lib.hid rfl, Lib.hid rfl, H⟩
  case round =>
    clear H
    obtain ⟨k, mm, cs, Am, cm, hk, rfl, rfl, hmm, HCL, HF, H⟩ := hrel
    by_cases hlt : k < nl
    · have hkl : k < l.length := by rw [HNL.out]; exact hlt
      have hk1 : (k : Int) < (nl : Int) := by omega
      have hs1 : -9223372036854775808 ≤ (k : Int) + 1 := by omega
      have hs2 : (k : Int) + 1 ≤ 9223372036854775807 := by omega
      obtain ⟨ad, e, hx⟩ := H.now.1.1 k hkl
      cases e
      obtain ⟨x, hxe⟩ : ∃ x, l[k] = x := ⟨_, rfl⟩
      rw [hxe] at hx
      have HTK : Hid (folM p (l.take (k + 1)) = cs ++ (if decide (x.hi < x.lo) = true then [] else [wayH p x])) := Lib.hid (by
        rw [List.take_succ_eq_append_getElem hkl, hxe, folM_snoc, HF.out])
      obtain ⟨⟨y1, y2⟩, hy⟩ : ∃ y, wayP p x.lo x.hi x.age = y := ⟨_, rfl⟩
      have HY := Lib.hid hy
      have KWay : Hid (∀ W, Calls Tryz.prog 71 #[.agg #[.int .i64 p.N, .int .i64 p.F, .int .i64 p.D, .int .i64 p.Be, .int .i64 p.Rho, .int .i64 p.De, .int .i64 p.Ji, .int .i64 p.Eps, .int .i64 p.Mu, .int .i64 p.Ho, .int .i64 p.Pu, .int .i64 p.Se], .agg #[.int .i64 x.lo, .int .i64 x.hi], .int .i64 x.age] W fun e w' => e = .returned (.agg #[.int .i64 y1, .int .i64 y2]) ∧ Below W.heap.size W w') := Lib.hid (fun W => by have := Way_calls p x.lo x.hi x.age W; rw [hy] at this; exact this)
      clear hxe hy
      obtain ⟨kind, frm, xlo, xhi, xheld, xhops, xgood, ref, slo, shi, pulse, xst, xsn, Ax, xn, xc, age⟩ := x
      have HC := Lib.hid hx
      clear hx
      simp only [encH] at HC
      dsimp only at HY KWay
      cases hd : decide (xhi < xlo) with
      | true =>
        go_wp2_with (first
          | ((with_reducible refine gate_dst (N := 19) rfl ?_); refine load_cells rfl rfl (ad := ad.add (k * 15)) (cs := [.int .i64 kind, .int .i64 frm, .int .i64 xlo, .int .i64 xhi, .int .i64 xheld, .int .i64 xhops, .bool xgood, .bool ref, .int .i64 slo, .int .i64 shi, .int .i64 pulse, .int .i64 xst, .int .i64 xsn, .slice Ax xn xc, .int .i64 age]) ?hx Tryz.underlying45 rfl (by kernel_rfl) HC.out ?_; (case hx => first | rfl | (go_simp; done) | (go_simp; rfl)))
          | ((with_reducible refine gate_dst (N := 10) rfl ?_); refine nA #[.int .i64 0, .int .i64 0, .int .i64 0, .int .i64 0, .int .i64 0, .int .i64 0, .bool false, .bool false, .int .i64 0, .int .i64 0, .int .i64 0, .int .i64 0, .int .i64 0, .slice none 0 0, .int .i64 0] 45 H ?_; clear H; intro g10 w10 H)
          | ((with_reducible refine gate_dst (N := 11) rfl ?_); refine nA #[.int .i64 0, .int .i64 0, .int .i64 0, .int .i64 0, .int .i64 0, .int .i64 0, .bool false, .bool false, .int .i64 0, .int .i64 0, .int .i64 0, .int .i64 0, .int .i64 0, .slice none 0 0] 43 H ?_; clear H; intro g11 w11 H)
          | ((with_reducible refine gS rfl ?_); refine xS H ?_; clear H; intro w_ H)
          | ((with_reducible refine gL rfl ?_); refine xL H ?_)
          | (go_at_call 43; (with_reducible refine (Empty_calls _ _ _).mono ?_); rintro e w' ⟨rfl, hb⟩; have H1 := H.call hb; clear hb; replace H := H1; clear H1)
          | fail)
        go_roundw
        case rel => exact ⟨k + 1, mm, cs, Am, cm, by omega, by simp, rfl, by omega, HCL, Lib.hid (HTK.out.trans (by simp [hd])), H.drop.drop⟩
        case measure => simp [intOf]; omega
      | false =>
        go_upto_region 7 with (first
          | ((with_reducible refine gate_dst (N := 19) rfl ?_); refine load_cells rfl rfl (ad := ad.add (k * 15)) (cs := [.int .i64 kind, .int .i64 frm, .int .i64 xlo, .int .i64 xhi, .int .i64 xheld, .int .i64 xhops, .bool xgood, .bool ref, .int .i64 slo, .int .i64 shi, .int .i64 pulse, .int .i64 xst, .int .i64 xsn, .slice Ax xn xc, .int .i64 age]) ?hx Tryz.underlying45 rfl (by kernel_rfl) HC.out ?_; (case hx => first | rfl | (go_simp; done) | (go_simp; rfl)))
          | ((with_reducible refine gate_dst (N := 10) rfl ?_); refine nA #[.int .i64 0, .int .i64 0, .int .i64 0, .int .i64 0, .int .i64 0, .int .i64 0, .bool false, .bool false, .int .i64 0, .int .i64 0, .int .i64 0, .int .i64 0, .int .i64 0, .slice none 0 0, .int .i64 0] 45 H ?_; clear H; intro g10 w10 H)
          | ((with_reducible refine gate_dst (N := 11) rfl ?_); refine nA #[.int .i64 0, .int .i64 0, .int .i64 0, .int .i64 0, .int .i64 0, .int .i64 0, .bool false, .bool false, .int .i64 0, .int .i64 0, .int .i64 0, .int .i64 0, .int .i64 0, .slice none 0 0] 43 H ?_; clear H; intro g11 w11 H)
          | ((with_reducible refine gS rfl ?_); refine xS H ?_; clear H; intro w_ H)
          | ((with_reducible refine gL rfl ?_); refine xL H ?_)
          | (go_at_call 43; (with_reducible refine (Empty_calls _ _ _).mono ?_); rintro e w' ⟨rfl, hb⟩; have H1 := H.call hb; clear hb; replace H := H1; clear H1)
          | fail)
        refine ro_start (Frs _ _ _ _ _) [11] [0, 1, 2, 3, 4, 5, 6, 7, 8, 9, 10, 11] 12 (by kernel_rfl) (by rfl) (by simp only [pickR, List.getElem?_cons_succ, List.getElem?_cons_zero]; rfl) (by rfl) (H.drewN 1) (fun HS => ?_)
        have H1 : Fr _ _ _ _ _ _ := HS
        clear HS H
        have H := H1
        clear H1
        repeat ((first
          | ((with_reducible refine rz_call (f := 71) rfl ?_); refine ro_call 71 _ rfl (by kernel_rfl) (by kernel_rfl) (by rfl) Tryz.func71 (by kernel_rfl) rfl (by simp only [List.map_toArray, List.map_cons, List.map_nil]; rfl) ?_; (refine (KWay.out _).mono ?_); rintro e w' ⟨rfl, hb⟩; have H1 := H.call hb; refine ⟨_, rfl, H1, fun _ => ?_⟩; clear hb; replace H := H1; clear H1; (try simp only [Act.put, lsA, lsZ, lsS, Nat.reduceAdd]))
          | ((with_reducible refine rz_load rfl ?_); refine zL H ?_)
          | ((with_reducible refine rz_store rfl ?_); refine zS H ?_; clear H; intro w1 H)
          | (refine zO ?_)
          | (refine zP ?_)); (try simp only [Act.put, lsA, lsZ, lsS, Nat.reduceAdd]))
        refine ro_done (by kernel_rfl) ?_
        go_wp2_with (first
          | (at_builtin; refine wpList_append_own_at _ rfl _ _ 130 rfl w.heap.size 43 iM _ 14 120 Tryz.underlying130 hiM zM0 zM1 zM2 rfl (by decide) (.slice Am mm cm) mm (flM cs) rfl (own_val (owns_at H.now.2 (r := orM Am cm mm cs) (by simp))) ⟨x39, 0, none⟩ 1 1 [.int .i64 kind, .int .i64 frm, .int .i64 y1, .int .i64 y2, .int .i64 xheld, .int .i64 xhops, .bool xgood, .bool ref, .int .i64 slo, .int .i64 shi, .int .i64 pulse, .int .i64 xst, .int .i64 xsn, .slice Ax xn xc] rfl rfl ?hn ?h1 (by unfold maxLen; omega) (by omega) H.chg.size ?_; (case hn => exact new_cells (H.of At.head)); (case h1 => exact encM_one ⟨kind, frm, y1, y2, xheld, xhops, xgood, ref, slo, shi, pulse, xst, xsn, Ax, xn, xc, age⟩); intro v6 w6 hown hgrow hnil hat)
          | ((with_reducible refine gate_dst (N := 39) rfl ?_); refine nR H ?_; clear H; intro x39 w39 H)
          | ((with_reducible refine gL rfl ?_); refine xL H ?_)
          | fail)
        obtain ⟨A6, c6, rfl⟩ := own_shapeO hown
        have eM := orM_more Am cm mm cs ⟨kind, frm, y1, y2, xheld, xhops, xgood, ref, slo, shi, pulse, xst, xsn, Ax, xn, xc, age⟩ A6 c6
        have HF2 := Fr.growO (r := orM Am cm mm cs) (r' := orM A6 c6 (mm + 1) (cs ++ [⟨kind, frm, y1, y2, xheld, xhops, xgood, ref, slo, shi, pulse, xst, xsn, Ax, xn, xc, age⟩])) (rs' := [orM A6 c6 (mm + 1) (cs ++ [⟨kind, frm, y1, y2, xheld, xhops, xgood, ref, slo, shi, pulse, xst, xsn, Ax, xn, xc, age⟩])]) H HR0.out (fun k e => e ▸ HD.out.1) (fun k h => h) (by simp) (fun q hq => .inl (List.mem_singleton.1 hq)) (by rw [← eM]; exact hown) hat hgrow
        exact ⟨⟨k + 1, mm + 1, _, A6, c6, by omega, rfl, rfl, by omega, Lib.hid (by rw [List.length_append, HCL.out]; rfl), Lib.hid (HTK.out.trans (by rw [hd, if_neg (by decide)]; unfold wayH; dsimp only; rw [HY.out])), HF2.drop.drop.drop⟩, by simp [intOf]; omega⟩
    · obtain rfl : k = nl := by omega
      have HFO : Hid (folM p l = cs) := Lib.hid (by rw [← HF.out, List.take_of_length_le (by rw [HNL.out]; exact Nat.le_refl _)])
      obtain ⟨o, hco⟩ : ∃ o, chooseP p.D cs = o := ⟨_, rfl⟩
      have HCB : Hid (folB p l = o.isSome) := Lib.hid (by unfold folB; rw [HFO.out, hco])
      have HCS : Hid (folS p ta l ⟨nlo, nhi, ntime, nset, nheld, nhops, ngood, ntab, nst, nsn, nlife⟩ = folStep ta ⟨nlo, nhi, ntime, nset, nheld, nhops, ngood, ntab, nst, nsn, nlife⟩ o) := Lib.hid (by
        unfold folS
        rw [HFO.out, hco])
      have KC : Hid (∀ W, Tr (fun _ => False) W (fun W => RowM W Am cs) → Calls Tryz.prog 75 #[.agg #[.int .i64 p.N, .int .i64 p.F, .int .i64 p.D, .int .i64 p.Be, .int .i64 p.Rho, .int .i64 p.De, .int .i64 p.Ji, .int .i64 p.Eps, .int .i64 p.Mu, .int .i64 p.Ho, .int .i64 p.Pu, .int .i64 p.Se], .slice Am mm cm] W fun e w' => e = .returned (.tuple #[.agg (encM (o.getD z0)).toArray, .bool o.isSome]) ∧ Below W.heap.size W w') := Lib.hid (fun W h => by
        have := Choose_calls p Am cm cs W h (by rw [HCL.out]; omega)
        rw [HCL.out, hco] at this
        exact this)
      have HIN : Hid (∀ m, o = some m → (∃ x ∈ l, m = wayH p x) ∧ usN p.D m = true) := Lib.hid (fun m h => by
        have := choose_in (hco.trans h)
        exact ⟨fol_in (HFO.out ▸ this.1), this.2⟩)
      clear hco
      have HTM := Lib.hid (show Tr (fun _ => False) wr (fun W => RowM W Am cs) from Tr.less (Foot.imp H.out (fun W h => rowM_own (own_val (owns_at h.2 (r := orM Am cm mm cs) (by simp))))) (fun _ _ h => h.elim))
      cases o with
      | none =>
        simp only [Option.getD_none, Option.isSome_none, encM, z0] at KC HCB
        go_wp2_with (first
          | (go_at_call 75; (with_reducible refine (KC.out _ HTM.out).mono ?_); rintro e w' ⟨rfl, hb⟩; have H1 := H.call hb; clear hb; replace H := H1; clear H1)
          | ((with_reducible refine gate_dst (N := 12) rfl ?_); refine nA #[.int .i64 0, .int .i64 0, .int .i64 0, .int .i64 0, .int .i64 0, .int .i64 0, .bool false, .bool false, .int .i64 0, .int .i64 0, .int .i64 0, .int .i64 0, .int .i64 0, .slice none 0 0] 43 H ?_; clear H; intro g12 w12 H)
          | ((with_reducible refine gS rfl ?_); refine xS H ?_; clear H; intro w_ H)
          | ((with_reducible refine gL rfl ?_); refine xL H ?_)
          | fail)
        refine bodyPost_ret (results_ct rfl _ _ g6 30 _ (0, 0) _ rfl (H.of (by repeat (first | exact At.head | apply At.tail))) Tryz.underlying30 rfl (by kernel_rfl)) rfl ?_
        rw [HCS.out, HCB.out]
        simp only [folStep]
        rw [HNT.out]
        exact ⟨A2, c2, rfl, Fr.below1 H HG.out (H.of (by repeat (first | exact At.head | apply At.tail))), Foot.imp H.out (fun W h => by have := h.1.2.2.2; rw [HNT.out] at this; exact this)⟩
      | some m =>
        obtain ⟨⟨q, hq, hqe⟩, hus⟩ := HIN.out m rfl
        have hho := usN_hops hus
        obtain ⟨tt, htt⟩ : ∃ t, tbH ta m = t := ⟨_, rfl⟩
        have htq : tbH ta q = tt := by rw [← htt, hqe]; rfl
        have hqn := (HOK.out q hq).1
        rw [htq] at hqn
        have hmn : m.n = tt.length := by rw [hqe]; exact hqn
        obtain ⟨gb, hgb⟩ : ∃ b, gd tt = b := ⟨_, rfl⟩
        have KG : Hid (∀ W, pcN (tbH ta) Al l A2 ntab W → Calls Tryz.prog 48 #[.slice m.A m.n m.c] W fun e w' => e = .returned (.bool gb) ∧ Below W.heap.size W w') := Lib.hid (fun W h => by
          have h1 := h.2.1 q hq
          rw [htq, hqn, show q.A = m.A by rw [hqe]; rfl] at h1
          have := Good_calls m.A m.c tt W h1
          rw [hgb, ← hmn] at this
          exact this)
        have HKT : Hid (∀ W, pcN (tbH ta) Al l A2 ntab W → Kd.C k72 W m.A tt.length tt) := Lib.hid (fun W h => by
          have h1 := h.2.1 q hq
          rw [htq, hqn, show q.A = m.A by rw [hqe]; rfl] at h1
          exact h1)
        have hcs := HCS.out
        simp only [folStep] at hcs
        rw [htt, hgb] at hcs
        have HCS2 := Lib.hid hcs
        have HMN := Lib.hid hmn
        clear hqe hus htt htq hqn hgb hcs hmn HCS HIN
        obtain ⟨kind2, frm2, lo2, hi2, held2, hops2, good2, ref2, slo2, shi2, pulse2, st2, sn2, Am2, n2, c2', age2⟩ := m
        dsimp only at hho KG HKT HMN HCS2
        have hw1 : -9223372036854775808 ≤ hops2 + 1 := by omega
        have hw2 : hops2 + 1 ≤ 9223372036854775807 := by have := HPD.out; omega
        have hwr : IntKind.i64.wrap (hops2 + 1) = hops2 + 1 := by rw [IntKind.wrap_i64]; omega
        simp only [Option.getD_some, Option.isSome_some, encM] at KC HCB
        clear hho
        obtain ⟨hq1, hhq⟩ : ∃ y, hops2 + 1 = y := ⟨_, rfl⟩
        rw [hhq] at HCS2 hwr
        go_upto_region 13 with (first
          | (go_at_call 75; (with_reducible refine (KC.out _ HTM.out).mono ?_); rintro e w' ⟨rfl, hb⟩; have H1 := H.call hb; clear hb; replace H := H1; clear H1)
          | ((with_reducible refine gate_dst (N := 12) rfl ?_); refine nA #[.int .i64 0, .int .i64 0, .int .i64 0, .int .i64 0, .int .i64 0, .int .i64 0, .bool false, .bool false, .int .i64 0, .int .i64 0, .int .i64 0, .int .i64 0, .int .i64 0, .slice none 0 0] 43 H ?_; clear H; intro g12 w12 H)
          | ((with_reducible refine gS rfl ?_); refine xS H ?_; clear H; intro w_ H)
          | ((with_reducible refine gL rfl ?_); refine xL H ?_)
          | fail)
        refine ko_region1 H (by simp only [List.length_cons, List.length_nil, Nat.reduceAdd]; rfl) (g := g5) (by repeat (first | exact Take.head | apply Take.tail)) (by kernel_rfl) (by as_aux_lemma => kernel_rfl) (fun HR => ?_)
        repeat ((first
          | ((with_reducible refine kg_call (f := 35) rfl ?_); refine yC 35 Tryz.func35 (fun W hC hd => More_calls _ W) ?_)
          | ((with_reducible refine kg_load rfl ?_); refine yL HR ?_)
          | ((with_reducible refine kg_store rfl ?_); refine yS ?_; (try simp only [Value.cells, List.length_cons, List.length_nil, Nat.reduceAdd]))
          | (refine yP ?_)
          | (refine yO ?_)); (try simp only [Act.put, lsA, lsZ, lsS, Nat.reduceAdd]))
        refine ko_end ?_
        intro w1 H1
        clear HR H
        have H := H1
        clear H1
        (try simp only [List.map_cons, List.map_nil, cv, List.cons_append, List.nil_append] at H)
        cases gb with
        | false =>
          go_wp2_with (first
            | (go_at_call 48; (with_reducible refine (KG.out _ H.now.1).mono ?_); rintro e w' ⟨rfl, hb⟩; have H1 := H.call hb; clear hb; replace H := H1; clear H1)
            | ((with_reducible refine gS rfl ?_); refine xS H ?_; clear H; intro w_ H)
            | ((with_reducible refine gL rfl ?_); refine xL H ?_)
            | fail)
          refine bodyPost_ret (results_ct rfl _ _ g6 30 _ (0, 0) _ rfl (H.of (by repeat (first | exact At.head | apply At.tail))) Tryz.underlying30 rfl (by kernel_rfl)) rfl ?_
          rw [HCS2.out, HCB.out]
          simp only [Bool.false_eq_true, if_false]
          rw [HNT.out]
          exact ⟨A2, c2, rfl, Fr.below1 H HG.out (H.of (by repeat (first | exact At.head | apply At.tail))), Foot.imp H.out (fun W h => by have := h.1.2.2.2; rw [HNT.out] at this; exact this)⟩
        | true =>
          go_wp2_with (first
            | (go_at_call 48; (with_reducible refine (KG.out _ H.now.1).mono ?_); rintro e w' ⟨rfl, hb⟩; have H1 := H.call hb; clear hb; replace H := H1; clear H1)
            | ((with_reducible refine gS rfl ?_); refine xS H ?_; clear H; intro w_ H)
            | ((with_reducible refine gL rfl ?_); refine xL H ?_)
            | fail)
          refine bodyPost_ret (results_ct rfl _ _ g6 30 _ (0, 0) _ rfl (H.of (by repeat (first | exact At.head | apply At.tail))) Tryz.underlying30 rfl (by kernel_rfl)) rfl ?_
          rw [HCS2.out, HCB.out]
          simp only [if_true]
          rw [← HMN.out]
          exact ⟨Am2, c2', rfl, Fr.below1 H HG.out (H.of (by repeat (first | exact At.head | apply At.tail))), Foot.imp H.out (fun W h => by have := HKT.out W h.1; rw [← HMN.out] at this; exact this)⟩
end Go.Proofs.YtdaohldmojpihaaGreatDoor.G

namespace Go.Proofs.YtdaohldmojpihaaGreatDoor.G
open Go.RowKit Go.Proofs.YtdaohldmojpihaaGreatDoorW.PrintWords Go.Proofs.YtdaohldmojpihaaGreatDoorW.PrintLast Go.Proofs.YtdaohldmojpihaaGreatDoorW.PrintMore Go.Proofs.YtdaohldmojpihaaGreatDoorPl Go.Proofs.YtdaohldmojpihaaGreatDoorEm Go.Proofs.YtdaohldmojpihaaGreatDoorKr Go.Proofs.YtdaohldmojpihaaGreatDoorRz Go.Proofs.YtdaohldmojpihaaGreatDoor.X
open Go.Proofs.YtdaohldmojpihaaGreatDoor.Mb (Tab FT atF hearF tickF nums GoodF Ab nearE)
set_option linter.unusedVariables false
set_option linter.unusedSimpArgs false
theorem Fr.turnO {M A : Nat → Prop} {w W W1 : World} {bl bl' : List (Nat × Obj)} {p : World → Prop} {rs : List OR} {r : OR} {g : Nat} {old new : Obj} (H : Fr M A w W bl (fun W => p W ∧ owns w.heap.size rs W)) (ha : At bl g old new bl') (hb : W1.heap[g]? = some new) (hc : Chg (fun k => k = g) W W1) (hn : r.own W.heap.size W1) : Fr M A w W1 bl' (fun W => p W ∧ owns w.heap.size (r :: rs) W) := by
  refine ((H.turn ha hb hc).and (Tr_ownR hn H.chg.size (fun k hk hD => ?_))).imp (fun W' h => ⟨h.1.1, owns_cons.2 ⟨h.2, h.1.2⟩⟩)
  have h1 := (own_lt hn hk).1
  have h2 := H.avs k (hD.imp id (ha.of k).1)
  omega
theorem Fr.callQ {M A : Nat → Prop} {w W W1 : World} {bl : List (Nat × Obj)} {p q : World → Prop} {rs : List OR} (H : Fr M A w W bl (fun W => p W ∧ owns w.heap.size rs W)) (hB : Below W.heap.size W W1) (hq : Tr (fun k => A k ∨ Of bl k) W1 q) : Fr M A w W1 bl (fun W => (p W ∧ q W) ∧ owns w.heap.size rs W) :=
  (H.call2 hB hq).imp (fun W h => ⟨⟨h.1.1, h.2⟩, h.1.2⟩)
def lostS (p : Par) (s : St) (ticks : Int) : St := { s with lo := sadd [s.lo, ssub ticks p.Rho], hi := sadd [s.hi, sadd [ticks, p.Rho]], held := moreP s.held, hops := p.D + 1, good := false }
def nextN (p : Par) (ta : Option Addr → Nat → List Lp) (l : List Hd) (s : St) (ticks : Int) : St :=
  if coreB p l = true then coreS p (tbH ta) l s else if folB p l = true then folS p ta l s else lostS p s ticks
def lisN (p : Par) (l : List Hd) (z : St) : St := l.foldl (fun z h => if ((h.kind == 2) && h.good) = true then listenS p z h.st h.sn else z) z
def beatN0 (p : Par) (ta : Option Addr → Nat → List Lp) (l : List Hd) (s : St) (ticks : Int) : St := lisN p l (stepS p s ticks (nextN p ta l s ticks))
theorem lisN_snoc (p : Par) (l : List Hd) (h : Hd) (z : St) : lisN p (l ++ [h]) z = if ((h.kind == 2) && h.good) = true then listenS p (lisN p l z) h.st h.sn else lisN p l z := by unfold lisN; rw [List.foldl_append]; rfl
theorem lis_same (p : Par) : ∀ (l : List Hd) (z : St), (lisN p l z).lo = z.lo ∧ (lisN p l z).hi = z.hi ∧ (lisN p l z).time = z.time ∧ (lisN p l z).set = z.set ∧ (lisN p l z).held = z.held ∧ (lisN p l z).hops = z.hops ∧ (lisN p l z).good = z.good ∧ (lisN p l z).tab = z.tab ∧ (lisN p l z).life = z.life
  | [], z => ⟨rfl, rfl, rfl, rfl, rfl, rfl, rfl, rfl, rfl⟩
  | a :: l, z => by
    have h := lis_same p l (if ((a.kind == 2) && a.good) = true then listenS p z a.st a.sn else z)
    rw [show lisN p (a :: l) z = lisN p l (if ((a.kind == 2) && a.good) = true then listenS p z a.st a.sn else z) from rfl]
    by_cases hc : ((a.kind == 2) && a.good) = true
    · rw [if_pos hc] at h ⊢; exact h
    · rw [if_neg hc] at h ⊢; exact h
theorem kn_mem (me : Int) (f : FT) : ∀ (l : List Hd) (x : Hd), x ∈ (knP me f l).1 → x ∈ l := by
  suffices h : ∀ (l : List Hd) (a : List Hd × FT) (x : Hd), x ∈ (l.foldl (kn1 me) a).1 → x ∈ a.1 ∨ x ∈ l from fun l x hx => (h l ([], f) x hx).resolve_left (fun q => by cases q)
  intro l
  induction l with
  | nil => intro a x hx; exact .inl hx
  | cons y l ih =>
    intro a x hx
    rcases ih _ x hx with q | q
    · unfold kn1 at q
      split at q
      · exact .inl q
      · split at q
        · exact .inl q
        · split at q
          · exact .inl q
          · split at q
            · rcases List.mem_append.1 q with q | q
              · exact .inl q
              · rw [List.mem_singleton.1 q]; exact .inr List.mem_cons_self
            · exact .inl q
    · exact .inr (List.mem_cons_of_mem _ q)
theorem adopt_len {F : Int} {own : List Lp} {ts : List (List Lp)} (ho : own.length ≤ 4096) (h : ∀ t ∈ ts, t.length ≤ 4096) : (Vt.adoptP F own ts).1.length ≤ 4096 := by
  unfold Vt.adoptP
  split
  · rw [List.getD_eq_getElem?_getD]
    cases hx : ts[Vt.idxK ts (Vt.agr F ts).1]? with
    | none => exact Nat.zero_le _
    | some t => exact h t (List.mem_of_getElem? hx)
  · exact ho
theorem next_len {p : Par} {ta : Option Addr → Nat → List Lp} {l : List Hd} {s : St} {ticks : Int} (ho : tbOk (tbH ta) l) (hs : s.tab.length ≤ 4096) : (coreS p (tbH ta) l s).tab.length ≤ 4096 ∧ (folS p ta l s).tab.length ≤ 4096 ∧ (nextN p ta l s ticks).tab.length ≤ 4096 := by
  have h1 : (coreS p (tbH ta) l s).tab.length ≤ 4096 := by
    unfold coreS
    split
    · exact adopt_len hs (fun t ht => by
        obtain ⟨x, hx, rfl⟩ := List.mem_map.1 ht
        exact (ho x (coreL_mem hx)).2.2.1)
    · exact hs
  have h2 : (folS p ta l s).tab.length ≤ 4096 := by
    unfold folS
    cases hc : chooseP p.D (folM p l) with
    | none => exact hs
    | some m =>
      obtain ⟨q, hq, e⟩ := fol_in (choose_in hc).1
      show (if gd (tbH ta m) = true then tbH ta m else s.tab).length ≤ 4096
      split
      · have := (ho q hq).2.2.1
        rw [e]
        exact this
      · exact hs
  refine ⟨h1, h2, ?_⟩
  unfold nextN
  split
  · exact h1
  · split
    · exact h2
    · exact hs
def pcB (ta : Option Addr → Nat → List Lp) (Ah : Option Addr) (l : List Hd) (A : Option Addr) (tt : List Lp) (W : World) : Prop := RowH W Ah l ∧ TbW (tbH ta) l W ∧ Vt.Tb W ∧ Kd.C k72 W A tt.length tt
theorem core_none {p : Par} {tb : Hd → List Lp} {l : List Hd} {s : St} (h : coreB p l = false) : coreS p tb l s = s := by
  unfold coreB at h
  unfold coreS
  rw [h, if_neg (by decide)]
theorem step_tr {b t g base : Nat} {W : World} {p q : World → Prop} {rs : List OR} (h : Tr (ndM b t g) W (fun W => (p W ∧ q W) ∧ owns base rs W)) : Tr (fun k => k = g) W q := Tr.less (Foot.imp h (fun _ h => h.1.2)) (fun k _ e => .inr (.inr e))
theorem sane_len (D : Int) (s : St) : (saneS D s).tab.length ≤ s.tab.length := by
  unfold saneS
  dsimp only
  split
  · exact Nat.le_refl _
  · exact Nat.zero_le _
theorem own_Cn {W : World} {b n c : Nat} {A : Option Addr} {l : List Lp} (h : W.ownsRow b 72 2 (.slice A n c) n (flL l)) (hn : l.length = n) : Kd.C k72 W A n l := by
  obtain ⟨A2, c2, e, _, h4, _⟩ := row_C h hn
  injection e with e1 e2 e3
  rw [e1]
  exact h4
theorem say_tr {b t g base m c : Nat} {W : World} {A : Option Addr} {l : List Lp} {p : World → Prop} {rs : List OR} (h : Tr (ndM b t g) W (fun W => p W ∧ owns base rs W)) (hm : ⟨72, 2, A, m, c, flL l⟩ ∈ rs) (hn : l.length = m) : Tr (fun k => k = g) W (fun W => Kd.C k72 W A m l) :=
  Tr.less (Foot.imp h (fun _ h => own_Cn (own_val (owns_at h.2 hm)) hn)) (fun k _ e => .inr (.inr e))
theorem nd_self {b t g : Nat} {bl : List (Nat × Obj)} : ndM b t g g ∨ Of bl g := .inl (.inr (.inr rfl))
theorem pc_known {ta : Option Addr → Nat → List Lp} {Ah Al A : Option Addr} {cl nk b : Nat} {heard kl : List Hd} {tt : List Lp} {rs : List OR} {W : World} (h : pcB ta Ah heard A tt W) (hr : owns b rs W) (hm : orH Al cl nk kl ∈ rs) (hs : ∀ x ∈ kl, x ∈ heard) : pcN (tbH ta) Al kl A tt W :=
  ⟨rowH_own (own_val (owns_at hr hm)), fun x hx => h.2.1 x (hs x hx), h.2.2.1, h.2.2.2⟩
theorem kn_good {me : Int} {f : FT} : ∀ (l : List Hd), GoodF f → GoodF (knP me f l).2 := by
  suffices h : ∀ (l : List Hd) (a : List Hd × FT), GoodF a.2 → GoodF (l.foldl (kn1 me) a).2 from fun l hf => h l ([], f) hf
  intro l
  induction l with
  | nil => intro a h; exact h
  | cons x l ih =>
    intro a h
    refine ih _ ?_
    unfold kn1
    split
    · exact h
    · split
      · exact h
      · split
        · exact Mb.GoodF.hear h x.frm
        · split
          · exact Mb.GoodF.hear h x.frm
          · exact Mb.GoodF.hear h x.frm
end Go.Proofs.YtdaohldmojpihaaGreatDoor.G
