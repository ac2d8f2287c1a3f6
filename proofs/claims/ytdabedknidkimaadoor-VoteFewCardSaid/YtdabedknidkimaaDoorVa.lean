/- vote.Adopt: the walk. -/
import Derived.Test.YtdabedknidkimaaDoorVg
import Derived.Test.YtdabedknidkimaaDoorAgs
import Derived.Lib.SliceRun
import Derived.Lib.SlicesS
namespace Go.Proofs.YtdabedknidkimaaDoor.Vt
open Go.RowKit Go.Proofs.YtdabedknidkimaaDoorW.PrintWords Go.Proofs.YtdabedknidkimaaDoorW.PrintLast Go.Proofs.YtdabedknidkimaaDoorW.PrintMore Go.Proofs.YtdabedknidkimaaDoorEv Go.Proofs.YtdabedknidkimaaDoor.X
set_option linter.unusedVariables false
set_option linter.unusedSimpArgs false
/-- Entries as cells. -/
def fl37 (l : List S37) : List Value := l.flatMap (fun x => [.int .i64 x.f0, .int .i64 x.f1])
theorem fl37_length : ∀ l : List S37, (fl37 l).length = l.length * 2
  | [] => rfl
  | x :: l => by
    show (.int .i64 x.f0 :: .int .i64 x.f1 :: fl37 l : List Value).length = _
    rw [List.length_cons, List.length_cons, fl37_length l, List.length_cons]; omega
theorem fl37_get : ∀ (l : List S37) (j : Nat) (u : Value), (fl37 l)[j]? = some u → ∃ (k i : Nat) (hk : k < l.length), j = k * 2 + i ∧ [Value.int .i64 l[k].f0, .int .i64 l[k].f1][i]? = some u
  | [], j, u, h => by simp [fl37] at h
  | x :: l, 0, u, h => ⟨0, 0, by simp, rfl, h⟩
  | x :: l, 1, u, h => ⟨0, 1, by simp, rfl, h⟩
  | x :: l, j + 2, u, h => by
    obtain ⟨k, i, hk, e, hu⟩ := fl37_get l j u h
    exact ⟨k + 1, i, by simp; omega, by omega, hu⟩
theorem fl37_one : ∀ (l : List S37), ∀ u ∈ fl37 l, u.oneCell' = true := by
  intro l u hu
  unfold fl37 at hu
  rw [List.mem_flatMap] at hu
  obtain ⟨x, _, hx⟩ := hu
  simp at hx
  rcases hx with rfl | rfl <;> rfl
/-- A row that came in, as cells. -/
theorem cells37 {w : World} {ad : Addr} {l : List S37} (h : Kd.C k37 w (some ad) l.length l) : ∀ j u, (fl37 l)[j]? = some u → w.cell? (ad.add j) = some u := by
  intro j u hu
  obtain ⟨k, i, hk, rfl, hi⟩ := fl37_get l j u hu
  obtain ⟨ad', e, hx⟩ := in37 h (Below.refl _ _) k hk
  cases e
  rw [← add_add]
  exact hx i u hi
theorem info37 : (Tryd.prog.info? 37).map (fun i => (i.zero, i.size, i.bytes)) = some (some (.agg #[.int .i64 0, .int .i64 0]), 2, 16) := by kernel_rfl
set_option maxRecDepth 100000 in
set_option maxHeartbeats 4000000 in
theorem Clone_calls (A : Option Addr) (c : Nat) (l : List S37) (w : World) (hr : Kd.C k37 w A l.length l) (hl : l.length ≤ 4096) :
    Calls Tryd.prog 21 #[.slice A l.length c] w fun e w' => ∃ u, e = .returned u ∧ w'.ownsRow w.heap.size 37 2 u l.length (fl37 l) ∧ Below w.heap.size w w' := by
  obtain ⟨i0, hi0, hz0, hz1, hz2⟩ := info_parts info37
  cases A with
  | none =>
    have h0 : l = [] := by
      cases l with
      | nil => rfl
      | cons x r =>
        obtain ⟨ad, e, _⟩ := in37 hr (Below.refl _ _) 0 (by simp)
        cases e
    subst h0
    have hq : ∀ w, (binOp .eql 22 (.slice none 0 c) (.slice none 0 0)).run Tryd.prog w = .ok (.bool true) w := fun w => by rw [Lib.run_eql_slice_nil w 22 37 none 0 c 0 0 Tryd.underlying22]; rfl
    go_enter Tryd.func21, Tryd.ntmps21
    go_wp2
    go_ret
    exact ⟨_, rfl, World.ownsRow_nil _ _ _ _, Below.refl _ _⟩
  | some ad =>
    have HC := Lib.hid (cells37 hr)
    have HL := Lib.hid (fl37_length l)
    have HO := Lib.hid (fl37_one l)
    obtain ⟨n, hn⟩ : ∃ n, l.length = n := ⟨_, rfl⟩
    rw [hn] at HL hl ⊢
    clear hr hn
    generalize fl37 l = news at HC HL HO ⊢
    have hq : ∀ w, (binOp .eql 22 (.slice (some ad) n c) (.slice none 0 0)).run Tryd.prog w = .ok (.bool false) w := fun w => by rw [Lib.run_eql_slice_nil w 22 37 (some ad) n c 0 0 Tryd.underlying22]; rfl
    go_enter Tryd.func21, Tryd.ntmps21
    go_wp2_with (first
      | (at_builtin; refine wpList_append_own_at _ rfl _ _ 22 rfl w.heap.size 37 i0 (.agg #[.int .i64 0, .int .i64 0]) 2 16 Tryd.underlying22 hi0 hz0 hz1 hz2 rfl (by decide) (.slice (some ⟨w.heap.size, 0, none⟩) 0 0) 0 [] rfl ?ho ad n c news rfl HL.out ?hn HO.out (by unfold maxLen; omega) (by omega) (by simp) ?_; (case ho => exact ⟨by simp, .inr ⟨_, 0, #[], rfl, Nat.le_refl _, blk_new w _, Nat.le_refl _, by unfold maxLen; omega, rfl, rfl⟩⟩); (case hn => exact fun j u hu => pw_cell_below (below_alloc (Below.refl _ _) _) (HC.out j u hu)); intro u' w1 hown' hgrow hnil hat))
    go_ret
    refine ⟨u', rfl, ?_, ?_⟩
    · rw [Nat.zero_add, List.nil_append] at hown'
      exact hown'
    · exact (below_alloc (Below.refl _ _) _).grown hgrow (by simp) (fun k hk => by injection hk with hk; change w.heap.size = k at hk; omega)
def keyB (l : List S37) : ByteArray := ⟨(keyL l).toArray⟩
/-- A row of tables that came in. -/
def okT (l : List S37) : Prop := l.length ≤ 4096 ∧ ∀ x ∈ l, okE x
theorem in_tab {w0 w : World} {A : Option Addr} {ts : List (List S37)} (h : Kd.C (Kd.slice 37 k37) w0 A ts.length ts) (hb : Below w0.heap.size w0 w) (k : Nat) (hk : k < ts.length) :
    ∃ ad A0 c0, A = some ad ∧ w.cell? (ad.add k) = some (.slice A0 ts[k].length c0) ∧ ts[k].length ≤ c0 ∧ Kd.C k37 w A0 ts[k].length ts[k] := by
  obtain ⟨ad, A0, c0, e, hc, hl, hC⟩ := at_L2 (Kd.C_below h hb) (k : Int) (by omega) (by omega)
  rw [rdL hk] at hc hl hC
  exact ⟨ad, A0, c0, e, by simpa using hc, hl, hC⟩
set_option maxRecDepth 100000 in
set_option maxHeartbeats 4000000 in
theorem same_calls (A : Option Addr) (c : Nat) (l : List S37) (bx : Nat) (key : ByteArray) (w : World) (hr : Kd.C k37 w A l.length l) (ht : Tb w) (hok : okT l) (hbx : w.cell? ⟨bx, 0, none⟩ = some (.string key)) (r : Bool) (he : decide (keyB l = key) = r) :
    Calls Tryd.prog 23 #[.slice A l.length c, .pointer (some ⟨bx, 0, none⟩)] w fun e w' => e = .returned (.bool r) ∧ Hid (Below w.heap.size w w') := by
  have hlt : bx < w.heap.size := World.block_lt_of_cell? w _ hbx
  have HK := Lib.hid (fun W (hb : Below w.heap.size w W) => Key_calls A c l W (Kd.C_below hr hb) (ht.below hb) hok.2 hok.1)
  have he' : ((⟨(keyL l).toArray⟩ : ByteArray).toList == key.toList) = r := by
    rw [← he, Bool.eq_iff_iff, Lib.bytes_beq_iff, decide_eq_true_iff]
    exact Iff.rfl
  obtain ⟨n, hn⟩ : ∃ n, l.length = n := ⟨_, rfl⟩
  rw [hn] at HK ⊢
  clear hr ht hok hn he
  generalize (⟨(keyL l).toArray⟩ : ByteArray) = kl at HK he'
  go_enter Tryd.func23, Tryd.ntmps23
  go_wp2
  go_region_held3 (fun w' => w'.cell? ⟨bx, 0, none⟩ = some (.string key))
    (first | exact hbx | exact pw_cell_below HB.out hbx | go_keep)
    (first
      | (go_at_call 10; refine (HK.out _ ?h1).mono ?_; (case h1 => first | exact Below.refl _ _ | exact pw_below_drewN (Below.refl _ _) 1); rintro e w1 ⟨rfl, hb⟩; have HB := Lib.hid hb; clear hb))
  go_wp2
  go_ret
  refine ⟨?_, ?_⟩
  · rfl
  · exact Lib.hid (show Below w.heap.size w w1 from ⟨HB.out.os, HB.out.tape, HB.out.output, HB.out.size, HB.out.block⟩)
/-- The place of the first table of a text. -/
def idxK (ts : List (List S37)) (key : ByteArray) : Nat := ts.findIdx (fun t => decide (keyB t = key))
set_option maxRecDepth 100000 in
set_option maxHeartbeats 4000000 in
theorem IndexTab_calls (A : Option Addr) (c : Nat) (ts : List (List S37)) (bx : Nat) (key : ByteArray) (w : World) (hr : Kd.C (Kd.slice 37 k37) w A ts.length ts) (ht : Tb w) (hok : ∀ t ∈ ts, okT t) (hl : ts.length ≤ 4096) (hbx : w.cell? ⟨bx, 0, none⟩ = some (.string key)) (hin : idxK ts key < ts.length) :
    Calls Tryd.prog 22 #[.slice A ts.length c, .func (.func 23) #[] #[.pointer (some ⟨bx, 0, none⟩)]] w fun e w' => e = .returned (.int .i64 (idxK ts key)) ∧ Hid (Below w.heap.size w w') := by
  have R := Lib.hid hr
  have T := Lib.hid ht
  have O := Lib.hid hok
  have BX := Lib.hid hbx
  obtain ⟨n, hn⟩ : ∃ n, ts.length = n := ⟨_, rfl⟩
  have HN := Lib.hid hn
  obtain ⟨z, hz⟩ : ∃ z, idxK ts key = z := ⟨_, rfl⟩
  have HZ := Lib.hid hz
  rw [hn, hz] at hin
  rw [hn] at hl ⊢
  rw [hz]
  clear hr ht hok hbx hn hz
  go_enter Tryd.func22, Tryd.ntmps22
  go_wp2
  go_loopw [8] (fun v8 wr => ∃ k : Nat, k ≤ z ∧ v8 = .int .i64 k ∧ Hid (Below w.heap.size w wr)) (fun v8 _ => n - (intOf v8).toNat)
  case atStart => exact ⟨0, by omega, rfl, Lib.hid (Below.refl _ _)⟩
  case round =>
    obtain ⟨k, hk, rfl, HB⟩ := hrel
    have hkl : k < ts.length := by rw [HN.out]; omega
    have hk1 : (k : Int) < (n : Int) := by omega
    have hs1 : -9223372036854775808 ≤ (k : Int) + 1 := by omega
    have hs2 : (k : Int) + 1 ≤ 9223372036854775807 := by omega
    obtain ⟨ad, A0, c0, e, hc, hlc, hC⟩ := in_tab R.out HB.out k hkl
    cases e
    have HM : Hid (ts[k] ∈ ts) := Lib.hid (List.getElem_mem hkl)
    obtain ⟨r, hr⟩ : ∃ r, decide (keyB ts[k] = key) = r := ⟨_, rfl⟩
    have HRE := Lib.hid hr
    have HS := Lib.hid (same_calls A0 c0 ts[k] bx key _ hC (T.out.below HB.out) (O.out _ HM.out) (pw_cell_below HB.out BX.out) r hr)
    generalize ts[k].length = m at hc hlc HS
    clear hC hr HM
    by_cases hkz : k < z
    · have hrf : r = false := by
        have := List.not_of_lt_findIdx (p := fun t => decide (keyB t = key)) (xs := ts) (i := k) (by have := HZ.out; unfold idxK at this; omega)
        rw [← HRE.out]
        simpa using this
      subst hrf
      clear hlc
      go_wp2_with fail
      refine HS.out.mono ?_
      rintro e w' ⟨rfl, hb⟩
      go_wp2
      go_roundw
      case rel => exact ⟨k + 1, by omega, by simp, Lib.hid (HB.out.trans (hb.out.mono HB.out.size))⟩
      case measure => simp [intOf]; omega
    · obtain rfl : k = z := by omega
      have hrf : r = true := by
        rw [← HRE.out]
        have e := HZ.out
        unfold idxK at e
        subst e
        exact List.findIdx_getElem (p := fun t => decide (keyB t = key)) (w := hkl)
      subst hrf
      clear hlc hkz
      go_wp2_with fail
      refine HS.out.mono ?_
      rintro e w' ⟨rfl, hb⟩
      go_wp2
      go_ret
      exact ⟨rfl, Lib.hid (HB.out.trans (hb.out.mono HB.out.size))⟩
end Go.Proofs.YtdabedknidkimaaDoor.Vt
