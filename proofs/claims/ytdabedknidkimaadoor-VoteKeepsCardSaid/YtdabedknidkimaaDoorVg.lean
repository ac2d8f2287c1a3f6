/- leap.Good: whether a table is good. -/
import Derived.Test.YtdabedknidkimaaDoorVw
import Derived.Test.YtdabedknidkimaaDoorVq
namespace Go.Proofs.YtdabedknidkimaaDoor.Vt
open Go.RowKit Go.Proofs.YtdabedknidkimaaDoorW.PrintWords Go.Proofs.YtdabedknidkimaaDoorW.PrintLast Go.Proofs.YtdabedknidkimaaDoorW.PrintMore Go.Proofs.YtdabedknidkimaaDoorEv Go.Proofs.YtdabedknidkimaaDoor.X
set_option linter.unusedVariables false
set_option linter.unusedSimpArgs false
set_option maxRecDepth 100000 in
set_option maxHeartbeats 1000000 in
theorem day_calls (w : World) (x0 x1 : Int) : Calls Tryd.prog 29 #[.agg #[.int .i64 x0, .int .i64 x1]] w fun e w' => e = .returned (.bool (!whole ⟨x0, x1⟩)) ∧ Hid (Below w.heap.size w w') := by
  go_enter Tryd.func29, Tryd.ntmps29
  go_wp2
  go_ret
  exact ⟨rfl, Lib.hid (below_alloc (Below.refl _ _) _)⟩
/-- An element's cells, now. -/
theorem in37' {w0 w : World} {A : Option Addr} {xs : List S37} (h : Kd.C k37 w0 A xs.length xs) (hb : Below w0.heap.size w0 w) (k : Nat) (hk : k < xs.length) (x0 x1 : Int) (e0 : xs[k].f0 = x0) (e1 : xs[k].f1 = x1) :
    ∃ ad, A = some ad ∧ Hid (∀ j u, [Value.int .i64 x0, .int .i64 x1][j]? = some u → w.cell? ((ad.add (k * 2)).add j) = some u) := by
  obtain ⟨ad, e, hx⟩ := in37 h hb k hk
  rw [e0, e1] at hx
  exact ⟨ad, e, Lib.hid hx⟩
set_option maxRecDepth 100000 in
set_option maxHeartbeats 4000000 in
theorem IndexDay_calls (A : Option Addr) (c : Nat) (l : List S37) (w : World) (hr : Kd.C k37 w A l.length l) (hl : l.length ≤ 4611686018427387904) :
    Calls Tryd.prog 33 #[.slice A l.length c, .func (.func 29) #[] #[]] w fun e w' => ∃ i : Int, e = .returned (.int .i64 i) ∧ Hid (decide (0 ≤ i) = !(l.all whole)) ∧ Hid (Below w.heap.size w w') := by
  have R := Lib.hid hr
  obtain ⟨n, hn⟩ : ∃ n, l.length = n := ⟨_, rfl⟩
  have HN := Lib.hid hn
  rw [hn] at hl ⊢
  clear hr hn
  go_enter Tryd.func33, Tryd.ntmps33
  go_wp2
  go_loopw [8] (fun v8 wr => ∃ k : Nat, k ≤ n ∧ v8 = .int .i64 k ∧ Hid (∀ x ∈ l.take k, whole x = true) ∧ Hid (Below w.heap.size w wr)) (fun v8 _ => n - (intOf v8).toNat)
  case atStart => exact ⟨0, by omega, rfl, Lib.hid (fun x hx => by simp at hx), Lib.hid (Below.refl _ _)⟩
  case round =>
    obtain ⟨k, hk, rfl, HQ, HB⟩ := hrel
    by_cases hlt : k < n
    · have hkl : k < l.length := by rw [HN.out]; exact hlt
      have hk1 : (k : Int) < (n : Int) := by omega
      have hs1 : -9223372036854775808 ≤ (k : Int) + 1 := by omega
      have hs2 : (k : Int) + 1 ≤ 9223372036854775807 := by omega
      obtain ⟨x, hx⟩ : ∃ x, l[k] = x := ⟨_, rfl⟩
      obtain ⟨ad, e, HC⟩ := in37' R.out HB.out k hkl x.f0 x.f1 (by rw [hx]) (by rw [hx])
      cases e
      have HX : Hid (l.take (k + 1) = l.take k ++ [x]) := Lib.hid (by rw [List.take_succ_eq_append_getElem hkl, hx])
      have HM : Hid (x ∈ l) := Lib.hid (hx ▸ List.getElem_mem hkl)
      obtain ⟨b, hb⟩ : ∃ b, whole x = b := ⟨_, rfl⟩
      have HB2 := Lib.hid hb
      have HD : Hid (∀ W, Calls Tryd.prog 29 #[.agg #[.int .i64 x.f0, .int .i64 x.f1]] W fun e w' => e = .returned (.bool (!b)) ∧ Hid (Below W.heap.size W w')) := Lib.hid (fun W => hb ▸ day_calls W x.f0 x.f1)
      generalize x.f0 = x0 at HC HD
      generalize x.f1 = x1 at HC HD
      clear hx hb
      cases b with
      | true =>
        go_wp2_with (first
          | ((with_reducible refine gate_dst (N := 15) rfl ?_); refine load_cells rfl rfl (ad := ad.add (k * 2)) (cs := [.int .i64 x0, .int .i64 x1]) ?hx Tryd.underlying37 rfl (by kernel_rfl) HC.out ?_; (case hx => first | rfl | (go_simp; done) | (go_simp; rfl))))
        refine (HD.out _).mono ?_
        rintro e w' ⟨rfl, hb⟩
        go_wp2
        go_roundw
        case rel => exact ⟨k + 1, by omega, by simp, Lib.hid (fun y hy => by
          rw [HX.out] at hy
          rcases List.mem_append.1 hy with hy | hy
          · exact HQ.out y hy
          · rw [List.mem_singleton.1 hy]; exact HB2.out), Lib.hid (HB.out.trans (hb.out.mono HB.out.size))⟩
        case measure => simp [intOf]; omega
      | false =>
        go_wp2_with (first
          | ((with_reducible refine gate_dst (N := 15) rfl ?_); refine load_cells rfl rfl (ad := ad.add (k * 2)) (cs := [.int .i64 x0, .int .i64 x1]) ?hx Tryd.underlying37 rfl (by kernel_rfl) HC.out ?_; (case hx => first | rfl | (go_simp; done) | (go_simp; rfl))))
        refine (HD.out _).mono ?_
        rintro e w' ⟨rfl, hb⟩
        go_wp2
        go_ret
        refine ⟨_, rfl, Lib.hid ?_, Lib.hid (HB.out.trans (hb.out.mono HB.out.size))⟩
        have : l.all whole = false := by
          cases h : l.all whole with
          | false => rfl
          | true =>
            have := List.all_eq_true.1 h x HM.out
            rw [HB2.out] at this
            cases this
        rw [this]
        exact decide_eq_true (Int.natCast_nonneg k)
    · obtain rfl : k = n := by omega
      go_wp2
      go_ret
      refine ⟨_, rfl, Lib.hid ?_, HB⟩
      have : l.all whole = true := List.all_eq_true.2 (fun x hx => HQ.out x (by rw [List.take_of_length_le (by rw [HN.out]; exact Nat.le_refl _)]; exact hx))
      rw [this]
      rfl
set_option maxRecDepth 100000 in
set_option maxHeartbeats 4000000 in
theorem Contains_calls (A : Option Addr) (c : Nat) (l : List S37) (w : World) (hr : Kd.C k37 w A l.length l) (hl : l.length ≤ 4611686018427387904) :
    Calls Tryd.prog 28 #[.slice A l.length c, .func (.func 29) #[] #[]] w fun e w' => e = .returned (.bool (!(l.all whole))) ∧ Hid (Below w.heap.size w w') := by
  have HI := Lib.hid (IndexDay_calls A c l w hr hl)
  obtain ⟨n, hn⟩ : ∃ n, l.length = n := ⟨_, rfl⟩
  rw [hn] at HI ⊢
  clear hr hl hn
  go_enter Tryd.func28, Tryd.ntmps28
  go_wp2_with (go_at_call 33; refine HI.out.mono ?_; rintro e w1 ⟨i, rfl, H1, HB⟩)
  go_ret
  exact ⟨by rw [← H1.out]; first | done | rfl, HB⟩
set_option maxRecDepth 100000 in
set_option maxHeartbeats 4000000 in
theorem Good_calls (A : Option Addr) (c : Nat) (l : List S37) (w : World) (hr : Kd.C k37 w A l.length l) (hc : l.length ≤ c) (hl : l.length ≤ 4611686018427387904) :
    Calls Tryd.prog 19 #[.slice A l.length c] w fun e w' => e = .returned (.bool (gd l)) ∧ Hid (Below w.heap.size w w') := by
  have HT := Lib.hid (Table_calls A c l w hr hl)
  have HC := Lib.hid (fun W (hb : Below w.heap.size w W) => Contains_calls A c l W (Kd.C_below hr hb) hl)
  obtain ⟨n, hn⟩ : ∃ n, l.length = n := ⟨_, rfl⟩
  rw [hn] at HT HC ⊢
  obtain ⟨b, hb⟩ : ∃ b, tb l = b := ⟨_, rfl⟩
  obtain ⟨d, hd⟩ : ∃ d, l.all whole = d := ⟨_, rfl⟩
  have hg : gd l = (b && d) := by unfold gd; rw [hb, hd]
  rw [hb] at HT
  rw [hd] at HC
  rw [hg]
  clear hr hl hn hc hb hd hg
  cases b with
  | true =>
    go_enter Tryd.func19, Tryd.ntmps19
    go_wp2_with (first
      | (go_at_call 27; refine HT.out.mono ?_; rintro e w1 ⟨rfl, HB⟩)
      | (go_at_call 28; refine (HC.out _ HB.out).mono ?_; rintro e w2 ⟨rfl, HB2⟩))
    go_ret
    exact ⟨by simp, Lib.hid (HB.out.trans (HB2.out.mono HB.out.size))⟩
  | false =>
    go_enter Tryd.func19, Tryd.ntmps19
    go_wp2_with (go_at_call 27; refine HT.out.mono ?_; rintro e w1 ⟨rfl, HB⟩)
    go_ret
    exact ⟨rfl, HB⟩
end Go.Proofs.YtdabedknidkimaaDoor.Vt
