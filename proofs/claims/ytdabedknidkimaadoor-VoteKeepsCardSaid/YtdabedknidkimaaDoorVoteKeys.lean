/- VoteKeys: the walk. -/
import Derived.Test.YtdabedknidkimaaDoorVr
namespace Go.Proofs.YtdabedknidkimaaDoor.Vt
open Go.RowKit Go.Proofs.YtdabedknidkimaaDoorW.PrintWords Go.Proofs.YtdabedknidkimaaDoorW.PrintLast Go.Proofs.YtdabedknidkimaaDoorW.PrintMore Go.Proofs.YtdabedknidkimaaDoorEv Go.Proofs.YtdabedknidkimaaDoor.X
set_option linter.unusedVariables false
set_option linter.unusedSimpArgs false
/-- What is known of a table that came in. -/
abbrev WfT (l : List S37) : Prop := l.length ≤ maxLen ∧ l.length * 16 ≤ 140737488351232 ∧ ∀ x0_ ∈ l, ((Lit.int .i64 x0_.f0).wf = true ∧ (Lit.int .i64 x0_.f1).wf = true)
theorem wf64 {x : Int} (h : (Lit.int .i64 x).wf = true) : -9223372036854775808 ≤ x ∧ x ≤ 9223372036854775807 := by
  have e1 : IntKind.i64.min = -9223372036854775808 := rfl
  have e2 : IntKind.i64.max = 9223372036854775807 := rfl
  simp [Lit.wf, e1, e2] at h
  omega
theorem WfT.ok {l : List S37} (h : WfT l) : ∀ x ∈ l, okE x := fun x hx => ⟨wf64 (h.2.2 x hx).1, wf64 (h.2.2 x hx).2⟩
theorem great_to (A0 : Option Addr) (c0 : Nat) (a : List S37) (n0 : Nat) (A1 : Option Addr) (c1 : Nat) (ts : List (List S37)) (n1 : Nat) (w : World) (hr0 : Kd.C k37 w A0 a.length a) (hc0 : a.length ≤ c0) (hr1 : Kd.C (Kd.slice 37 k37) w A1 ts.length ts) (hc1 : ts.length ≤ c1) (hn0 : a.length = n0) (hn1 : ts.length = n1) (r : Bool) (hr : grt a ts = r) :
    Calls Tryd.prog 9 #[.slice A0 n0 c0, .slice A1 n1 c1] w fun e w' => e = .returned (.bool r) ∧ Hid (Below w.heap.size w w') := by
  subst hn0 hn1
  obtain ⟨k, hk⟩ := great_f a ts
  rw [hr] at hk
  refine (clepsydralaw19_great.calls k A0 c0 a A1 c1 ts r w hr0 hc0 hr1 hc1 hk).mono ?_
  rintro e w' ⟨rfl, h⟩
  exact ⟨rfl, Lib.hid h.below⟩
theorem grt_own {a : List S37} {ts : List (List S37)} (h : grt a ts = false) : a.length ≤ 256 ∧ ts.length ≤ 40 ∧ ∀ t ∈ ts, t.length ≤ 256 := by
  unfold grt at h
  rw [Bool.or_eq_false_iff, Bool.or_eq_false_iff] at h
  obtain ⟨⟨h1, h2⟩, h3⟩ := h
  refine ⟨by simpa using h1, by simpa using h2, fun t ht => ?_⟩
  rw [List.any_eq_false] at h3
  simpa using h3 t ht
theorem alive_to (w : World) (ht : Tb w) : Calls Tryd.prog 8 #[] w fun e w' => e = .returned (.bool true) ∧ Hid (Below w.heap.size w w') := alive_calls w ht
theorem refkey_to (A : Option Addr) (c : Nat) (l : List S37) (n : Nat) (hn : l.length = n) (w : World) (hr : Kd.C k37 w A l.length l) (ht : Tb w) (hok : okT l) (s : ByteArray) (hs : keyB l = s) :
    Calls Tryd.prog 11 #[.slice A n c] w fun e w' => e = .returned (.string s) ∧ Hid (Below w.heap.size w w') := by
  subst hn hs
  refine (RefKey_calls A c l w hr ht hok.2 hok.1).mono ?_
  rintro e w' ⟨rfl, h⟩
  exact ⟨rfl, Lib.hid h⟩
theorem one_row (w : World) (g : Nat) (hg : g = w.heap.size) (A : Option Addr) (b : List S37) (c : Nat) (hc : b.length ≤ c) (h : Kd.C k37 w A b.length b) : Kd.C (Kd.slice 37 k37) (w.alloc (.cells #[.slice A b.length c] 22 (0, 0))) (some ⟨g, 0, none⟩) [b].length [b] := by
  refine T_lit hg (by show 1 ≤ _; decide) [.slice A b.length c] (fun j hj => ?_)
  match j, hj with
  | 0, _ => exact ⟨A, c, rfl, hc, h⟩
set_option maxRecDepth 100000 in
set_option maxHeartbeats 8000000 in
theorem clepsydralaw19_VoteKeys.calls (A0 : Option Addr) (c0 : Nat) (l0 : List S37) (A1 : Option Addr) (c1 : Nat) (l1 : List S37) (w : World) (hr0 : Kd.C k37 w A0 l0.length l0) (hc0 : l0.length ≤ c0) (hr1 : Kd.C k37 w A1 l1.length l1) (hc1 : l1.length ≤ c1) (wf0 : WfT l0) (wf1 : WfT l1) (ht : Tb w) :
    Calls Tryd.prog 3 #[.slice A0 l0.length c0, .slice A1 l1.length c1] w fun e w' => e = .returned (.bool true) ∧ Below w.heap.size w w' := by
  have R0 := Lib.hid hr0
  have C0 := Lib.hid hc0
  have R1 := Lib.hid hr1
  have C1 := Lib.hid hc1
  have O0 := Lib.hid wf0
  have O1 := Lib.hid wf1
  have T := Lib.hid ht
  obtain ⟨n0, hn0⟩ : ∃ n0, l0.length = n0 := ⟨_, rfl⟩
  obtain ⟨n1, hn1⟩ : ∃ n1, l1.length = n1 := ⟨_, rfl⟩
  have N0 := Lib.hid hn0
  have N1 := Lib.hid hn1
  rw [hn0, hn1]
  clear hr0 hc0 hr1 hc1 wf0 wf1 ht hn0 hn1
  go_enter Tryd.func3, Tryd.ntmps3
  go_wp2_with fail
  refine (alive_to w T.out).mono ?_
  rintro e w1 ⟨rfl, B1⟩
  have RT : Hid (Kd.C (Kd.slice 37 k37) (w1.alloc (.cells #[.slice A1 n1 c1] 22 (0, 0))) (some ⟨w1.heap.size, 0, none⟩) [l1].length [l1]) := Lib.hid (N1.out ▸ one_row w1 _ rfl A1 l1 c1 C1.out (Kd.C_below R1.out B1.out))
  have BA : Hid (Below w1.heap.size w1 (w1.alloc (.cells #[.slice A1 n1 c1] 22 (0, 0)))) := Lib.hid (below_alloc (Below.refl _ _) _)
  have B2 := Lib.hid (B1.out.trans (BA.out.mono B1.out.size))
  go_wp2_with fail
  obtain ⟨r, hr⟩ : ∃ r, grt l0 [l1] = r := ⟨_, rfl⟩
  have HR := Lib.hid hr
  refine (great_to A0 c0 l0 n0 (some ⟨w1.heap.size, 0, none⟩) 1 [l1] 1 _ (Kd.C_below R0.out B2.out) C0.out RT.out (Nat.le_refl _) N0.out rfl r hr).mono ?_
  clear hr
  rintro e w3 ⟨rfl, B3⟩
  have BB := Lib.hid (B2.out.trans (B3.out.mono B2.out.size))
  clear B1 BA B2 B3 RT
  cases r with
  | true =>
    go_wp2_with fail
    go_ret
    exact ⟨rfl, BB.out⟩
  | false =>
    have G := Lib.hid (grt_own HR.out)
    have K0 : Hid (okT l0) := Lib.hid ⟨by have := G.out.1; omega, O0.out.ok⟩
    have K1 : Hid (okT l1) := Lib.hid ⟨by have := G.out.2.2 l1 List.mem_cons_self; omega, O1.out.ok⟩
    obtain ⟨s0, hs0⟩ : ∃ s0, keyB l0 = s0 := ⟨_, rfl⟩
    obtain ⟨s1, hs1⟩ : ∃ s1, keyB l1 = s1 := ⟨_, rfl⟩
    obtain ⟨q, hq⟩ : ∃ q, eqT l0 l1 = q := ⟨_, rfl⟩
    have S0 := Lib.hid hs0
    have S1 := Lib.hid hs1
    have Q := Lib.hid hq
    clear hs0 hs1 hq
    have hb1 : (s0.toList == s0.toList) = true := by simp
    have hb2 : (s0.toList == s1.toList) = q := by
      rw [← S0.out, ← S1.out, ← Q.out, Bool.eq_iff_iff, Lib.bytes_beq_iff, eqT_iff, keyB_iff]
    have hb3 : (q == q) = true := by simp
    go_wp2_with fail
    refine (key_to A0 c0 l0 n0 N0.out _ (Kd.C_below R0.out BB.out) (T.out.below BB.out) K0.out s0 S0.out).mono ?_
    rintro e w4 ⟨rfl, B4⟩
    have BC := Lib.hid (BB.out.trans (B4.out.mono BB.out.size))
    clear BB B4
    go_wp2_with fail
    refine (refkey_to A0 c0 l0 n0 N0.out _ (Kd.C_below R0.out BC.out) (T.out.below BC.out) K0.out s0 S0.out).mono ?_
    rintro e w5 ⟨rfl, B5⟩
    have BD := Lib.hid (BC.out.trans (B5.out.mono BC.out.size))
    clear BC B5
    go_wp2_with fail
    refine (key_to A0 c0 l0 n0 N0.out _ (Kd.C_below R0.out BD.out) (T.out.below BD.out) K0.out s0 S0.out).mono ?_
    rintro e w6 ⟨rfl, B6⟩
    have BE := Lib.hid (BD.out.trans (B6.out.mono BD.out.size))
    clear BD B6
    go_wp2_with fail
    refine (key_to A1 c1 l1 n1 N1.out _ (Kd.C_below R1.out BE.out) (T.out.below BE.out) K1.out s1 S1.out).mono ?_
    rintro e w7 ⟨rfl, B7⟩
    have BF := Lib.hid (BE.out.trans (B7.out.mono BE.out.size))
    clear BE B7
    go_wp2_with fail
    have ht' := tables_to A0 c0 l0 A1 c1 l1 w7 (Kd.C_below R0.out BF.out) C0.out (Kd.C_below R1.out BF.out) C1.out (by have := G.out.1; omega) q Q.out
    rw [N0.out, N1.out] at ht'
    refine ht'.mono ?_
    clear ht'
    rintro e w8 ⟨rfl, B8⟩
    have BG := Lib.hid (BF.out.trans (B8.out.mono BF.out.size))
    clear BF B8
    go_wp2_with fail
    go_ret
    exact ⟨rfl, BG.out⟩
end Go.Proofs.YtdabedknidkimaaDoor.Vt
