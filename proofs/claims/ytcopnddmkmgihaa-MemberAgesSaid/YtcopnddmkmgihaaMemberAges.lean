/- MemberAges: who is heard for n beats has an age of n; who isn't for patience and two is gone: the walk. -/
import Derived.Test.YtcopnddmkmgihaaMk
namespace Go.Proofs.Ytcopnddmkmgihaa.Mb
open Go.RowKit Go.Maps Go.Sort Go.Shelf Go.ChangeMaps Go.MapKept Go.Proofs.YtcopnddmkmgihaaW.PrintWords Go.Proofs.YtcopnddmkmgihaaW.PrintLast Go.Proofs.YtcopnddmkmgihaaW.PrintMore Go.Proofs.YtcopnddmkmgihaaEv Go.Proofs.YtcopnddmkmgihaaRx
set_option linter.unusedVariables false
set_option linter.unusedSimpArgs false
/-- Who was heard in k beats. -/
def AgP (f : FT) (who : Int) (k : Nat) : Prop := (0 ≤ who ∧ who < 48) ∧ ∃ a q, f who.toNat = some (a, q) ∧ (k : Int) ≤ a ∧ (0 < k → q = 1)
/-- Who wasn't heard for k beats. -/
def Qt (f : FT) (who p : Int) (k : Nat) : Prop := (0 ≤ who ∧ who < 48) ∧ (f who.toNat = none ∨ ((k : Int) ≤ p ∧ ∃ a : Int, f who.toNat = some (a, 1 + (k : Int))))
theorem ag_start {f f' : FT} {who : Int} (hg : GoodF f) (h : hearF f who = (0, f')) : AgP f' who 0 := by
  have hr := hearF_range (f := f) (who := who) (by rw [h])
  refine ⟨hr, ?_⟩
  have hg' := hg.hear who
  rw [h] at hg'
  unfold hearF at h
  rw [if_pos hr] at h
  cases hf : f who.toNat with
  | some v =>
    rw [hf] at h
    cases h
    refine ⟨v.1, 0, ?_, (hg _ v hf).1.1, fun q => by omega⟩
    unfold upd
    rw [if_pos rfl]
  | none =>
    rw [hf] at h
    dsimp only at h
    split at h
    · cases h
    · cases h
      refine ⟨0, 0, ?_, by decide, fun q => by omega⟩
      unfold upd
      rw [if_pos rfl]
theorem ag_hear {f : FT} {who : Int} {k : Nat} (h : AgP f who k) : ∃ f', hearF f who = (0, f') ∧ (0 ≤ who ∧ who < 48) ∧ ∃ a, f' who.toNat = some (a, 0) ∧ (k : Int) ≤ a := by
  obtain ⟨hr, a, q, hf, ha, _⟩ := h
  refine ⟨upd f who.toNat (some (a, 0)), ?_, hr, a, ?_, ha⟩
  · unfold hearF
    rw [if_pos hr, hf]
  · unfold upd
    rw [if_pos rfl]
theorem ag_tick {f : FT} {who p a : Int} {k : Nat} (hr : 0 ≤ who ∧ who < 48) (hf : f who.toNat = some (a, 0)) (ha : (k : Int) ≤ a) (hk : k < 60) : AgP (tickF p f) who (k + 1) := by
  have hng : goneP p (a, 0) = false := by unfold goneP; simp
  refine ⟨hr, min (a + 1) 1073741824, 1, ?_, by omega, fun _ => rfl⟩
  unfold tickF
  rw [hf]
  dsimp only
  unfold stepV
  rw [hng, if_neg (by decide), if_neg (by decide), if_pos rfl]
  rfl
theorem qt_start {f : FT} {who p : Int} {k : Nat} (hk : 0 < k) (hp : 0 ≤ p) (h : AgP f who k) : Qt f who p 0 := by
  obtain ⟨hr, a, q, hf, _, hq⟩ := h
  rw [hq hk] at hf
  exact ⟨hr, .inr ⟨by omega, a, by rw [hf]; rfl⟩⟩
theorem qt_tick {f : FT} {who p : Int} {k : Nat} (hp : p ≤ 50) (h : Qt f who p k) : Qt (tickF p f) who p (k + 1) := by
  obtain ⟨hr, hn | ⟨hk, a, hf⟩⟩ := h
  · refine ⟨hr, .inl ?_⟩
    unfold tickF
    rw [hn]
  · by_cases hg : goneP p (a, 1 + (k : Int)) = true
    · refine ⟨hr, .inl ?_⟩
      unfold tickF
      rw [hf]
      dsimp only
      rw [if_pos hg]
    · refine ⟨hr, .inr ⟨?_, 0, ?_⟩⟩
      · unfold goneP at hg
        simp only [Bool.and_eq_true, decide_eq_true_eq, not_and] at hg
        have := hg (by omega)
        omega
      · unfold tickF
        rw [hf]
        dsimp only
        rw [if_neg hg]
        unfold stepV
        rw [if_neg hg, if_neg (by dsimp only; omega)]
        show some ((0 : Int), min (1 + (k : Int) + 1) 1073741824) = some (0, 1 + ((k + 1 : Nat) : Int))
        rw [show min (1 + (k : Int) + 1) 1073741824 = 1 + ((k + 1 : Nat) : Int) by omega]
theorem ag_age {f : FT} {who : Int} {k : Nat} (h : AgP f who k) : ∃ a, ((atF f who).getD (0, 0)).1 = a ∧ (atF f who).isSome = true ∧ (k : Int) ≤ a := by
  obtain ⟨hr, a, q, hf, ha, _⟩ := h
  refine ⟨a, ?_, ?_, ha⟩
  · unfold atF; rw [if_pos hr, hf]; rfl
  · unfold atF; rw [if_pos hr, hf]; rfl
theorem qt_age {f : FT} {who p : Int} {k : Nat} (h : Qt f who p k) (hk : p < k) : ∃ a, ((atF f who).getD (0, 0)).1 = a ∧ (atF f who).isSome = false := by
  obtain ⟨hr, hn | ⟨hk2, _⟩⟩ := h
  · exact ⟨_, rfl, by unfold atF; rw [if_pos hr, hn]; rfl⟩
  · omega
set_option maxRecDepth 100000 in
set_option maxHeartbeats 8000000 in
theorem clepsydralaw14_MemberAges.calls (A0 : Option Addr) (c0 : Nat) (l0 : List S55) (who n p : Int) (w : World) (hr0 : Kd.C k55 w A0 l0.length l0) (hc0 : l0.length ≤ c0) (hw0 : Wf55 l0) (hw1 : (Lit.int .i64 who).wf = true) (hw2 : (Lit.int .i64 n).wf = true) (hw3 : (Lit.int .i64 p).wf = true) :
    Calls Try.prog 8 #[.slice A0 l0.length c0, .int .i64 who, .int .i64 n, .int .i64 p] w fun e w' => e = .returned (.bool true) ∧ Below w.heap.size w w' := by
  have R0 := Lib.hid hr0
  have W0 := Lib.hid hw0
  have W1 := Lib.hid (wf_i64 hw1)
  clear hr0 hc0 hw0 hw1 hw2 hw3
  by_cases g0 : (l0.length : Int) > 200
  · skip
    go_enter Try.func8, Try.ntmps8
    go_wp2_with (go_at_call 23; (with_reducible refine (alive_calls _).mono ?_); rintro e wa ⟨rfl, HB⟩)
    go_ret
    exact ⟨rfl, HB.out⟩
  by_cases g1 : n < 1
  · skip
    go_enter Try.func8, Try.ntmps8
    go_wp2_with (go_at_call 23; (with_reducible refine (alive_calls _).mono ?_); rintro e wa ⟨rfl, HB⟩)
    go_ret
    exact ⟨rfl, HB.out⟩
  by_cases g2 : n > 60
  · skip
    go_enter Try.func8, Try.ntmps8
    go_wp2_with (go_at_call 23; (with_reducible refine (alive_calls _).mono ?_); rintro e wa ⟨rfl, HB⟩)
    go_ret
    exact ⟨rfl, HB.out⟩
  by_cases g3 : p < 0
  · skip
    go_enter Try.func8, Try.ntmps8
    go_wp2_with (go_at_call 23; (with_reducible refine (alive_calls _).mono ?_); rintro e wa ⟨rfl, HB⟩)
    go_ret
    exact ⟨rfl, HB.out⟩
  by_cases g4 : p > 50
  · skip
    go_enter Try.func8, Try.ntmps8
    go_wp2_with (go_at_call 23; (with_reducible refine (alive_calls _).mono ?_); rintro e wa ⟨rfl, HB⟩)
    go_ret
    exact ⟨rfl, HB.out⟩
  have HL : Hid (l0.length ≤ 200 ∧ (1 ≤ n ∧ n ≤ 60) ∧ 0 ≤ p ∧ p ≤ 50) := Lib.hid (by omega)
  go_enter Try.func8, Try.ntmps8
  go_wp2_with (first
    | (go_at_call 23; (with_reducible refine (alive_calls _).mono ?_); rintro e wa ⟨rfl, HB⟩)
    | (go_at_call 24; (with_reducible refine (new_to w _ HB.out).mono ?_); rintro e w1 ⟨t, b, rfl, S0, B0⟩))
  clear g0 g1 g2 g3 g4
  go_loopw [40] (fun v40 wr => ∃ (k : Nat) (f : FT), k ≤ l0.length ∧ v40 = .int .i64 k ∧ Hid (St w wr t b f)) (fun v40 _ => l0.length - (intOf v40).toNat)
  case atStart => exact ⟨0, _, by omega, rfl, S0⟩
  case round =>
    clear S0 B0 HB
    obtain ⟨k, f, hk, rfl, S⟩ := hrel
    by_cases hlt : k < l0.length
    · have hk1 : (k : Int) < (l0.length : Int) := by omega
      have hs1 : -9223372036854775808 ≤ (k : Int) + 1 := by omega
      have hs2 : (k : Int) + 1 ≤ 9223372036854775807 := by have := HL.out; omega
      obtain ⟨ad, e, hx⟩ := in55 R0.out S.out.below k hlt
      cases e
      have HW := Lib.hid (rd55_wf W0.out k)
      generalize (rd55 l0 k).f0 = x0 at hx
      generalize (rd55 l0 k).f1 = x1 at hx HW
      have HC := Lib.hid hx
      clear hx
      by_cases k0 : x0 = 0
      · subst k0
        go_wp2_with ((with_reducible refine gate_dst (N := 43) rfl ?_); refine load_cells rfl rfl (ad := ad.add (k * 2)) (cs := [.int .i64 0, .int .i64 x1]) ?hx Try.underlying55 rfl (by kernel_rfl) HC.out ?_; (case hx => go_simp; done))
        refine (hear_to (S.out.grew _) x1 _ _ rfl).mono ?_
        rintro e w2 ⟨rfl, S1, _⟩
        go_wp2_with fail
        go_roundw
        case rel => exact ⟨k + 1, _, by omega, by simp, S1⟩
        case measure => simp [intOf]; omega
      by_cases k1 : x0 = 1
      · subst k1
        go_wp2_with ((with_reducible refine gate_dst (N := 43) rfl ?_); refine load_cells rfl rfl (ad := ad.add (k * 2)) (cs := [.int .i64 1, .int .i64 x1]) ?hx Try.underlying55 rfl (by kernel_rfl) HC.out ?_; (case hx => go_simp; done))
        refine (tick_to (S.out.grew _) x1 _ rfl _ rfl _ rfl).mono ?_
        rintro e w2 ⟨A2, c2, rfl, _, S1, _⟩
        go_wp2_with fail
        go_roundw
        case rel => exact ⟨k + 1, _, by omega, by simp, S1⟩
        case measure => simp [intOf]; omega
      by_cases k2 : x0 = 2
      · subst k2
        go_wp2_with ((with_reducible refine gate_dst (N := 43) rfl ?_); refine load_cells rfl rfl (ad := ad.add (k * 2)) (cs := [.int .i64 2, .int .i64 x1]) ?hx Try.underlying55 rfl (by kernel_rfl) HC.out ?_; (case hx => go_simp; done))
        refine (drop_to (S.out.grew _) x1 HW.out _ rfl).mono ?_
        rintro e w2 ⟨rfl, S1, _⟩
        go_wp2_with fail
        go_roundw
        case rel => exact ⟨k + 1, _, by omega, by simp, S1⟩
        case measure => simp [intOf]; omega
      · have d0 : (x0 == 0) = false := beq_eq_false_iff_ne.mpr k0
        have d1 : (x0 == 1) = false := beq_eq_false_iff_ne.mpr k1
        have d2 : (x0 == 2) = false := beq_eq_false_iff_ne.mpr k2
        clear k0 k1 k2
        go_wp2_with ((with_reducible refine gate_dst (N := 43) rfl ?_); refine load_cells rfl rfl (ad := ad.add (k * 2)) (cs := [.int .i64 x0, .int .i64 x1]) ?hx Try.underlying55 rfl (by kernel_rfl) HC.out ?_; (case hx => go_simp; done))
        go_roundw
        case rel => exact ⟨k + 1, _, by omega, by simp, Lib.hid (S.out.grew _)⟩
        case measure => simp [intOf]; omega
    · obtain rfl : k = l0.length := by omega
      clear hlt
      cases hh : hearF f who with
      | mk r f1 =>
        have HH := Lib.hid hh
        clear hh
        by_cases hr : r = 0
        · subst hr
          go_wp2_with fail
          refine (hear_to S.out who 0 f1 HH.out).mono ?_
          rintro e w2 ⟨rfl, S1, _⟩
          have HA := Lib.hid (ag_start S.out.good HH.out)
          clear S HH
          go_wp2_with fail
          go_loopw [12] (fun v12 wr => ∃ (k : Nat) (f : FT), k ≤ n.toNat ∧ v12 = .int .i64 k ∧ Hid (St w wr t b f) ∧ Hid (AgP f who k)) (fun v12 _ => n.toNat - (intOf v12).toNat)
          case atStart => exact ⟨0, _, by omega, rfl, S1, HA⟩
          case round =>
            clear S1 HA
            obtain ⟨k, f, hk, rfl, S, HA⟩ := hrel
            by_cases hlt : k < n.toNat
            · have hk1 : (k : Int) < n := by omega
              have hs1 : -9223372036854775808 ≤ (k : Int) + 1 := by omega
              have hs2 : (k : Int) + 1 ≤ 9223372036854775807 := by have := HL.out; omega
              obtain ⟨f2, h2, hr2, a2, h3, h4⟩ := ag_hear HA.out
              have H2 := Lib.hid h2
              have H3 := Lib.hid (ag_tick (p := p) hr2 h3 h4 (by have := HL.out; omega))
              clear h2 hr2 h3 h4
              go_wp2_with fail
              refine (hear_to S.out who 0 f2 H2.out).mono ?_
              rintro e w3 ⟨rfl, S2, _⟩
              go_wp2_with fail
              refine (tick_to S2.out p _ rfl _ rfl _ rfl).mono ?_
              rintro e w4 ⟨A4, c4, rfl, _, S3, _⟩
              go_wp2_with fail
              go_roundw
              case rel => exact ⟨k + 1, _, by omega, by simp, S3, H3⟩
              case measure => simp [intOf]; omega
            · obtain rfl : k = n.toNat := by omega
              clear hlt
              have hk1 : ¬ ((n.toNat : Nat) : Int) < n := by have := HL.out; omega
              have hk2 : (n.toNat : Int) = n := by have := HL.out; omega
              obtain ⟨a, h2, h3, h4⟩ := ag_age HA.out
              have H2 := Lib.hid h2
              have H3 := Lib.hid h3
              have hna : ¬ a < n := by have := HL.out; omega
              have HQ := Lib.hid (qt_start (p := p) (by have := HL.out; omega) HL.out.2.2.1 HA.out)
              clear h2 h3 h4
              go_wp2_with fail
              refine (age_to S.out who W1.out a true H2.out H3.out).mono ?_
              rintro e w3 ⟨rfl, S2, _⟩
              go_wp2_with fail
              go_loopw [15] (fun v15 wr => ∃ (j : Nat) (f : FT), j ≤ p.toNat + 2 ∧ v15 = .int .i64 j ∧ Hid (St w wr t b f) ∧ Hid (Qt f who p j)) (fun v15 _ => p.toNat + 2 - (intOf v15).toNat)
              case atStart => exact ⟨0, _, by omega, rfl, S2, HQ⟩
              case round =>
                clear S2 HQ S HA H2 H3 hna hk1 hk2
                obtain ⟨j, f3, hj, rfl, S, HQ⟩ := hrel
                have hp1 : -9223372036854775808 ≤ p + 2 := by have := HL.out; omega
                have hp2 : p + 2 ≤ 9223372036854775807 := by have := HL.out; omega
                by_cases hlt : j < p.toNat + 2
                · have hj1 : (j : Int) < p + 2 := by have := HL.out; omega
                  have hs1 : -9223372036854775808 ≤ (j : Int) + 1 := by omega
                  have hs2 : (j : Int) + 1 ≤ 9223372036854775807 := by have := HL.out; omega
                  go_wp2_with fail
                  refine (tick_to S.out p _ rfl _ rfl _ rfl).mono ?_
                  rintro e w4 ⟨A4, c4, rfl, _, S3, _⟩
                  have HQ2 := Lib.hid (qt_tick (by have := HL.out; omega) HQ.out)
                  go_wp2_with fail
                  go_roundw
                  case rel => exact ⟨j + 1, _, by omega, by simp, S3, HQ2⟩
                  case measure => simp [intOf]; omega
                · obtain rfl : j = p.toNat + 2 := by omega
                  have hj1 : ¬ ((p.toNat + 2 : Nat) : Int) < p + 2 := by have := HL.out; omega
                  obtain ⟨a3, h2, h3⟩ := qt_age HQ.out (by have := HL.out; omega)
                  have H2 := Lib.hid h2
                  have H3 := Lib.hid h3
                  clear h2 h3
                  go_wp2_with fail
                  refine (age_to S.out who W1.out a3 false H2.out H3.out).mono ?_
                  rintro e w5 ⟨rfl, S2, _⟩
                  go_wp2_with fail
                  go_ret
                  exact ⟨rfl, S2.out.below⟩
        · go_wp2_with fail
          refine (hear_to S.out who r f1 HH.out).mono ?_
          rintro e w2 ⟨rfl, S1, _⟩
          go_wp2_with fail
          go_ret
          exact ⟨rfl, S1.out.below⟩
end Go.Proofs.Ytcopnddmkmgihaa.Mb
