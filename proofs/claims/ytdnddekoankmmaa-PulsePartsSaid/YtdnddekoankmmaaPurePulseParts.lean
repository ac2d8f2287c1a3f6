/- PulseParts: what fires from one time to a later one is what fires up to a time between, and then from there. -/
import Derived.Test.YtdnddekoankmmaaPPulsePartsx2
import Derived.Test.YtdnddekoankmmaaPl
namespace Go.Proofs.Ytdnddekoankmmaa.Pure
open Go.RowKit Go.Proofs.Ytdnddekoankmmaa.PPulseParts Go.Proofs.YtdnddekoankmmaaW.PrintWords Go.Proofs.YtdnddekoankmmaaW.PrintLast Go.Proofs.YtdnddekoankmmaaW.PrintMore Go.Proofs.YtdnddekoankmmaaPl
theorem sat_Bound_f (k : Nat) (x lo hi : Int) (h : lo ≤ hi) : sat_Bound.f (k + 1) x lo hi = some (if x < lo then lo else if x > hi then hi else x) := by
  unfold sat_Bound.f
  by_cases h1 : x < lo
  · rw [if_pos h1, if_pos h1]; simp [sat_Bound.j0]
  · rw [if_neg h1, if_neg h1, decide_eq_false (by omega : ¬ hi < lo)]
    simp only [sat_Bound.j0]
    by_cases h2 : x > hi
    · rw [if_neg (by simp), if_pos h2, if_pos h2]
    · rw [if_neg (by simp), if_neg h2, if_neg h2]
theorem sat_Clip_f (k : Nat) (x : Int) : sat_Clip.f (k + 1) x = some (clip x) := by
  unfold sat_Clip.f
  rw [sat_Bound_f k x _ _ (by omega)]
  rfl
theorem wide_Div_f (k : Nat) (a c : Int) : wide_Div.f (k + 1) a c = some (dv a c, md a c) := by
  unfold wide_Div.f
  rw [sat_Clip_f, sat_Clip_f]
  simp only [Option.bind_some, mx_one]
  have h1 := clip_bd a
  have h2 := one_bd c
  have h3 := tdown (a := clip a) (c := one c) (by omega)
  have h4 := tdiv_bd (a := clip a) h2.1 h1.1 h1.2
  have h5 := tmod_bd (a := clip a) h2.1
  rw [if_neg (by omega)]
  unfold dv md
  by_cases g : (clip a).tmod (one c) < 0
  · rw [if_pos g, wrap_id (x := (clip a).tdiv (one c)) (by omega) (by omega), wrap_id (by omega) (by omega), wrap_id (by omega) (by omega), (h3.1 g).1, (h3.1 g).2]
  · rw [if_neg g, wrap_id (by omega) (by omega), (h3.2 g).1, (h3.2 g).2]
theorem pulse_Number_f (k : Nat) (b0 b1 b2 b3 b4 b5 b6 b7 b8 b9 pu b11 t : Int) : pulse_Number.f (k + 1) b0 b1 b2 b3 b4 b5 b6 b7 b8 b9 pu b11 t = some (dv t pu) := by
  unfold pulse_Number.f
  rw [wide_Div_f]
  rfl
theorem pulse_Fired_l0 (b0 b1 b2 b3 b4 b5 b6 b7 b8 b9 pu b11 t most : Int) (hm : most ≤ 1024) : ∀ (c k : Nat) (acc : List Int) (x : Int), -2305843009213693952 ≤ x → x ≤ 2305843009213693953 → min (dv t pu - x + 1) (most - acc.length) ≤ c → (0 < c → min (dv t pu - x + 1) (most - acc.length) = c) → c + 1 < k →
    pulse_Fired.l0 k t most acc x b0 b1 b2 b3 b4 b5 b6 b7 b8 b9 pu b11 = some (acc ++ runl x c) := by
  intro c
  induction c with
  | zero =>
    intro k acc n h0 h1 hd _ hk
    obtain ⟨k, rfl⟩ : ∃ m, k = m + 2 := ⟨k - 2, by omega⟩
    rw [pulse_Fired.l0, pulse_Number_f]; simp only [Option.bind_some, runl_zero, List.append_nil]
    by_cases h : n ≤ dv t pu
    · rw [if_pos h, if_neg (by omega)]
    · rw [if_neg h]
  | succ c ih =>
    intro k acc n h0 h1 _ hd hk
    have hd := hd (by omega)
    obtain ⟨k, rfl⟩ : ∃ m, k = m + 2 := ⟨k - 2, by omega⟩
    have hb := dv_bd t pu
    have e := ih (k + 1) (acc ++ [n]) (n + 1) (by omega) (by omega) (by simp; omega) (by intro _; simp; omega) (by omega)
    rw [pulse_Fired.l0, pulse_Number_f]; simp only [Option.bind_some]
    rw [if_pos (by omega), if_pos (by omega), if_pos (by omega), wrap_id (x := n + 1) (by omega) (by omega), e, runl_succ, List.append_assoc]
    rfl
theorem pulse_Fired_f (k : Nat) (b0 b1 b2 b3 b4 b5 b6 b7 b8 b9 pu b11 a t most : Int) (hm : most ≤ 1024) (hk : 1030 ≤ k) :
    pulse_Fired.f k b0 b1 b2 b3 b4 b5 b6 b7 b8 b9 pu b11 a t most = some (runl (dv a pu + 1) (min (dv t pu - dv a pu) most).toNat) := by
  have hb := dv_bd a pu
  obtain ⟨k, rfl⟩ : ∃ m, k = m + 1 := ⟨k - 1, by omega⟩
  unfold pulse_Fired.f
  rw [pulse_Number_f]
  simp only [Option.bind_some]
  rw [wrap_id (by omega) (by omega), pulse_Fired_l0 b0 b1 b2 b3 b4 b5 b6 b7 b8 b9 pu b11 t most hm (min (dv t pu - dv a pu) most).toNat (k + 1) [] (dv a pu + 1) (by omega) (by omega) (by simp; omega) (by intro h; simp; omega) (by omega)]
  rfl
theorem ref09_Same_l0 (l : List Int) (hl : l.length ≤ 9223372036854775806) : ∀ (d k : Nat) (i : Int), 0 ≤ i → i ≤ l.length → (l.length : Int) - i = d → d < k → clepsydraref09_Same.l0 k l l (l.length : Int) i = some true := by
  intro d
  induction d with
  | zero =>
    intro k i h0 h1 hd hk
    obtain ⟨k, rfl⟩ : ∃ m, k = m + 1 := ⟨k - 1, by omega⟩
    simp only [clepsydraref09_Same.l0]; rw [if_neg (by omega)]
  | succ d ih =>
    intro k i h0 h1 hd hk
    obtain ⟨k, rfl⟩ : ∃ m, k = m + 1 := ⟨k - 1, by omega⟩
    simp only [clepsydraref09_Same.l0]
    rw [if_pos (by omega), if_pos h0, if_pos (by omega), if_pos (by omega), if_pos trivial, wrap_id (by omega) (by omega)]
    exact ih k (i + 1) (by omega) (by omega) (by omega) (by omega)
theorem ref09_Same_refl (k : Nat) (l : List Int) (hl : l.length < k) (h2 : l.length ≤ 9223372036854775806) : clepsydraref09_Same.f k l l = some true := by
  unfold clepsydraref09_Same.f
  rw [if_pos rfl]
  exact ref09_Same_l0 l h2 l.length k 0 (by omega) (by omega) (by omega) (by omega)
theorem alive_f (k : Nat) (h : 50 ≤ k) : clepsydralaw13_alive.f k = some true :=
  at_rounds clepsydralaw13_alive.mono h (show clepsydralaw13_alive.f 50 = some true by decide +kernel)

theorem PulseParts : ∀ (a0_0 : Int) (a0_1 : Int) (a0_2 : Int) (a0_3 : Int) (a0_4 : Int) (a0_5 : Int) (a0_6 : Int) (a0_7 : Int) (a0_8 : Int) (a0_9 : Int) (a0_10 : Int) (a0_11 : Int) (a1 : Int) (a2 : Int) (a3 : Int), (Lit.int .i64 a0_0).wf = true → (Lit.int .i64 a0_1).wf = true → (Lit.int .i64 a0_2).wf = true → (Lit.int .i64 a0_3).wf = true → (Lit.int .i64 a0_4).wf = true → (Lit.int .i64 a0_5).wf = true → (Lit.int .i64 a0_6).wf = true → (Lit.int .i64 a0_7).wf = true → (Lit.int .i64 a0_8).wf = true → (Lit.int .i64 a0_9).wf = true → (Lit.int .i64 a0_10).wf = true → (Lit.int .i64 a0_11).wf = true → (Lit.int .i64 a1).wf = true → (Lit.int .i64 a2).wf = true → (Lit.int .i64 a3).wf = true → ∃ k, clepsydralaw13_PulseParts.f k a0_0 a0_1 a0_2 a0_3 a0_4 a0_5 a0_6 a0_7 a0_8 a0_9 a0_10 a0_11 a1 a2 a3 = some true := by
  intro b0 b1 b2 b3 b4 b5 b6 b7 b8 b9 pu b11 a b c _ _ _ _ _ _ _ _ _ _ _ _ _ _ _
  refine ⟨1500, ?_⟩
  unfold clepsydralaw13_PulseParts.f
  rw [alive_f 1500 (by omega)]
  simp only [Option.bind_some, if_true]
  by_cases h : a > b
  · rw [if_pos h]; simp [clepsydralaw13_PulseParts.j0]
  · rw [if_neg h]
    by_cases h2 : b > c
    · rw [decide_eq_true h2]; simp [clepsydralaw13_PulseParts.j0]
    · rw [decide_eq_false h2, clepsydralaw13_PulseParts.j0, if_neg (by simp)]
      have e1 := dv_mono (a := a) (b := b) (c := pu) (by omega)
      have e2 := dv_mono (a := b) (b := c) (c := pu) (by omega)
      rw [pulse_Fired_f _ _ _ _ _ _ _ _ _ _ _ _ _ a b 512 (by omega) (by omega), pulse_Fired_f _ _ _ _ _ _ _ _ _ _ _ _ _ b c 512 (by omega) (by omega)]
      simp only [Option.bind_some, runl_len]
      have fin : ∀ x : Bool, (x = false → (dv b pu - dv a pu < 512 ∧ (min (dv b pu - dv a pu) 512).toNat + (min (dv c pu - dv b pu) 512).toNat ≤ 512)) →
          clepsydralaw13_PulseParts.j1 1499 a c (runl (dv a pu + 1) (min (dv b pu - dv a pu) 512).toNat) (runl (dv b pu + 1) (min (dv c pu - dv b pu) 512).toNat) x b0 b1 b2 b3 b4 b5 b6 b7 b8 b9 pu b11 = some true := by
        intro x hx
        rw [clepsydralaw13_PulseParts.j1]
        cases x with
        | true => rfl
        | false =>
          have hx := hx rfl
          rw [if_neg (by simp), pulse_Fired_f _ _ _ _ _ _ _ _ _ _ _ _ _ a c 512 (by omega) (by omega)]
          simp only [Option.bind_some, runl_len, List.nil_append]
          by_cases g : ((min (dv c pu - dv b pu) 512).toNat : Int) = 512
          · rw [if_pos g]
          · rw [if_neg g, if_pos (by simp; omega), if_pos (by omega)]
            have e : runl (dv a pu + 1) (min (dv b pu - dv a pu) 512).toNat ++ runl (dv b pu + 1) (min (dv c pu - dv b pu) 512).toNat = runl (dv a pu + 1) (min (dv c pu - dv a pu) 512).toNat := by
              rw [show (min (dv c pu - dv a pu) 512).toNat = (min (dv b pu - dv a pu) 512).toNat + (min (dv c pu - dv b pu) 512).toNat by omega, runl_add]
              congr 2
              omega
            rw [e, ref09_Same_refl _ _ (by rw [runl_len]; omega) (by rw [runl_len]; omega)]
            rfl
      by_cases g : ((min (dv b pu - dv a pu) 512).toNat : Int) = 512
      · rw [if_pos g]
        exact fin true (by simp)
      · rw [if_neg g]
        refine fin _ (fun hx => ?_)
        have hx := of_decide_eq_false hx
        rw [wrap_id (by omega) (by omega)] at hx
        omega
end Go.Proofs.Ytdnddekoankmmaa.Pure
