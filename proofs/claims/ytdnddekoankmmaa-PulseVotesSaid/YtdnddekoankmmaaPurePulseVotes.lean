/- PulseVotes: the pure statement. -/
import Derived.Test.YtdnddekoankmmaaTb
import Derived.Test.YtdnddekoankmmaaQ16
namespace Go.Proofs.Ytdnddekoankmmaa.Pure
open Go.RowKit Go.Proofs.Ytdnddekoankmmaa.Q Go.Proofs.YtdnddekoankmmaaW.PrintWords Go.Proofs.YtdnddekoankmmaaW.PrintLast Go.Proofs.YtdnddekoankmmaaPl
theorem sat_Bound_f (k : Nat) (x lo hi : Int) (h : lo ≤ hi) : sat_Bound.f (k + 1) x lo hi = some (if x < lo then lo else if x > hi then hi else x) := by
  unfold sat_Bound.f
  by_cases h1 : x < lo
  · rw [if_pos h1, if_pos h1]; simp [sat_Bound.j0]
  · rw [if_neg h1, if_neg h1, decide_eq_false (by omega : ¬ hi < lo)]
    simp only [sat_Bound.j0]
    by_cases h2 : x > hi
    · rw [if_neg (by simp), if_pos h2, if_pos h2]
    · rw [if_neg (by simp), if_neg h2, if_neg h2]
theorem sat_Clip_f (k : Nat) (x : Int) : sat_Clip.f (k + 1) x = some (clip x) := by
  unfold sat_Clip.f
  rw [sat_Bound_f k x _ _ (by omega)]
  rfl
theorem wide_Div_f (k : Nat) (a c : Int) : wide_Div.f (k + 1) a c = some (dv a c, md a c) := by
  unfold wide_Div.f
  rw [sat_Clip_f, sat_Clip_f]
  simp only [Option.bind_some, mx_one]
  have h1 := clip_bd a
  have h2 := one_bd c
  have h3 := tdown (a := clip a) (c := Go.Proofs.YtdnddekoankmmaaPl.one c) (by omega)
  have h4 := tdiv_bd (a := clip a) h2.1 h1.1 h1.2
  have h5 := tmod_bd (a := clip a) h2.1
  rw [if_neg (by omega)]
  unfold dv md
  by_cases g : (clip a).tmod (Go.Proofs.YtdnddekoankmmaaPl.one c) < 0
  · rw [if_pos g, wrap_id (x := (clip a).tdiv (Go.Proofs.YtdnddekoankmmaaPl.one c)) (by omega) (by omega), wrap_id (by omega) (by omega), wrap_id (by omega) (by omega), (h3.1 g).1, (h3.1 g).2]
  · rw [if_neg g, wrap_id (by omega) (by omega), (h3.2 g).1, (h3.2 g).2]
theorem pulse_Number_f (k : Nat) (b0 b1 b2 b3 b4 b5 b6 b7 b8 b9 pu b11 t : Int) : pulse_Number.f (k + 1) b0 b1 b2 b3 b4 b5 b6 b7 b8 b9 pu b11 t = some (dv t pu) := by
  unfold pulse_Number.f
  rw [wide_Div_f]
  rfl
theorem alive13_f (k : Nat) (h : 60 ≤ k) : Q.clepsydralaw13_alive.f k = some true :=
  at_rounds Q.clepsydralaw13_alive.mono h (show Q.clepsydralaw13_alive.f 60 = some true by decide +kernel)
theorem middle_few {f : Int} {l : List Int} (h : (middle f l).2 = true) : ¬ few f (l.length : Int) = true := fun g => by
  unfold middle at h
  rw [if_pos g] at h
  cases h
theorem Votes_l0 (b0 b1 b2 b3 b4 b5 b6 b7 b8 b9 pu b11 f : Int) (l z : List Int) (hl : l.length + z.length ≤ 256) (hz : (z.length : Int) ≤ f) : ∀ (d k : Nat) (i lo hi : Int) (a : List Int), 0 ≤ i → i ≤ l.length → (l.length : Int) - i = d → a = (l.take i.toNat).map (fun t => dv t pu) → (∀ t, t ∈ l.take i.toNat → lo ≤ t ∧ t ≤ hi) →
    Q.clepsydralaw13_PulseVotes.l0 (k + 70000 + d) f z a lo hi l (l.length : Int) i b0 b1 b2 b3 b4 b5 b6 b7 b8 b9 pu b11 = some true := by
  intro d
  induction d with
  | zero =>
    intro k i lo hi a h0 h1 hd ha hb
    rw [List.take_of_length_le (by omega)] at ha hb
    have hal : a.length = l.length := by rw [ha]; simp
    have hyl : (a ++ z).length = l.length + z.length := by rw [List.length_append, hal]
    have hq : (a ++ z).length * ((a ++ z).length + 2) ≤ 256 * 258 := Nat.mul_le_mul (by omega) (by omega)
    rw [Nat.add_zero, Q.clepsydralaw13_PulseVotes.l0, if_neg (by omega), if_pos (by omega)]
    simp only [Option.bind_some]
    unfold Q.pulse_Vote.f
    rw [Middle_f (k + 69997) f (a ++ z) (by omega), refMiddle_f (k + 69999) f (a ++ z) (by omega) (by omega)]
    simp only [Option.bind_some, if_true, beq_self_eq_true]
    by_cases g : (middle f (a ++ z)).2 = true
    · rw [if_pos g, pulse_Number_f (k + 69998)]
      have hlo := dv_bd lo pu
      have hhi := dv_bd hi pu
      obtain ⟨_, e1, e2⟩ := middle_between f (a ++ z) (dv lo pu) (dv hi pu) (middle_few g) (by
        rw [List.countP_append]
        have q1 : a.countP (fun y => decide (y < dv lo pu ∨ y > dv hi pu)) = 0 := List.countP_eq_zero.2 (fun y hy => by
          rw [ha] at hy
          obtain ⟨t, ht, rfl⟩ := List.mem_map.1 hy
          have := hb t ht
          have m1 := dv_mono (c := pu) this.1
          have m2 := dv_mono (c := pu) this.2
          simp only [decide_eq_true_eq]
          omega)
        have q2 : z.countP (fun y => decide (y < dv lo pu ∨ y > dv hi pu)) ≤ z.length := List.countP_le_length
        omega) (by omega) (by omega)
      simp only [Option.bind_some]
      rw [if_pos e1, pulse_Number_f (k + 69998)]
      simp only [Option.bind_some]
      rw [decide_eq_true e2]
    · rw [if_neg g]
  | succ d ih =>
    intro k i lo hi a h0 h1 hd ha hb
    have hal : a.length ≤ 256 := by rw [ha]; simp; omega
    have ht := take_at 0 l i h0 (by omega)
    change _ = _ ++ [rd l i] at ht
    rw [← Nat.add_assoc, Q.clepsydralaw13_PulseVotes.l0, if_pos (by omega), if_pos h0, if_pos (by omega)]
    generalize rd l i = t at *
    rw [show k + 70000 + d = (k + 69999 + d) + 1 by omega, pulse_Number_f (k + 69999 + d), ← show k + 70000 + d = (k + 69999 + d) + 1 by omega]
    simp only [Option.bind_some]
    rw [if_pos (by omega), wrap_id (by omega) (by omega)]
    refine ih k (i + 1) _ _ _ (by omega) (by omega) (by omega) (by rw [ht, List.map_append, ← ha]; rfl) (fun s hs => ?_)
    rw [ht] at hs
    have h2 : mn lo t ≤ lo ∧ mn lo t ≤ t ∧ hi ≤ mx hi t ∧ t ≤ mx hi t := by
      unfold mn mx
      repeat' split <;> omega
    rcases List.mem_append.1 hs with hs | hs
    · have := hb s hs
      omega
    · rw [List.mem_singleton.1 hs]
      omega
theorem bind_true {α : Type} (F : Bool → Option α) : (some true).bind F = F true := rfl
theorem votes_top (b0 b1 b2 b3 b4 b5 b6 b7 b8 b9 pu b11 f : Int) (l z : List Int) (K : Nat) (hp : 60 ≤ K + 1) (hw : wrap64 ((l.length : Int) + (z.length : Int)) = (l.length : Int) + (z.length : Int))
    (hb : (l.length : Int) + (z.length : Int) ≤ 256 ∧ (z.length : Int) ≤ f → Q.clepsydralaw13_PulseVotes.l0 K f z [] (rd l 0) (rd l 0) l (l.length : Int) 0 b0 b1 b2 b3 b4 b5 b6 b7 b8 b9 pu b11 = some true) :
    Q.clepsydralaw13_PulseVotes.f (K + 1) b0 b1 b2 b3 b4 b5 b6 b7 b8 b9 pu b11 f l z = some true := by
  have hj : Q.clepsydralaw13_PulseVotes.j0 (K + 1) f l z true b0 b1 b2 b3 b4 b5 b6 b7 b8 b9 pu b11 = some true := by rw [Q.clepsydralaw13_PulseVotes.j0, if_pos rfl]
  unfold Q.clepsydralaw13_PulseVotes.f
  rw [alive13_f (K + 1) hp, bind_true, if_pos rfl]
  by_cases hl : (l.length : Int) + (z.length : Int) > 256
  · rw [if_pos (by rw [hw]; exact hl), hj]
  rw [if_neg (by rw [hw]; exact hl)]
  by_cases h0 : (z.length : Int) > f
  · rw [if_pos h0, hj]
  rw [if_neg h0]
  by_cases h1 : f > 256
  · rw [if_pos h1, hj]
  rw [if_neg h1]
  by_cases h2 : (l.length : Int) = 0
  · rw [show ((l.length : Int) == 0) = true by simpa using h2, hj]
  rw [show ((l.length : Int) == 0) = false by simpa using h2, Q.clepsydralaw13_PulseVotes.j0, if_neg (by simp), if_pos (by omega)]
  exact hb ⟨by omega, by omega⟩
theorem PulseVotes : ∀ (a0_0 : Int) (a0_1 : Int) (a0_2 : Int) (a0_3 : Int) (a0_4 : Int) (a0_5 : Int) (a0_6 : Int) (a0_7 : Int) (a0_8 : Int) (a0_9 : Int) (a0_10 : Int) (a0_11 : Int) (a1 : Int) (l2 : List (Int)) (l3 : List (Int)), (Lit.int .i64 a0_0).wf = true → (Lit.int .i64 a0_1).wf = true → (Lit.int .i64 a0_2).wf = true → (Lit.int .i64 a0_3).wf = true → (Lit.int .i64 a0_4).wf = true → (Lit.int .i64 a0_5).wf = true → (Lit.int .i64 a0_6).wf = true → (Lit.int .i64 a0_7).wf = true → (Lit.int .i64 a0_8).wf = true → (Lit.int .i64 a0_9).wf = true → (Lit.int .i64 a0_10).wf = true → (Lit.int .i64 a0_11).wf = true → (Lit.int .i64 a1).wf = true → (l2.length ≤ maxLen ∧ l2.length * 8 ≤ 140737488351232 ∧ ∀ x0_ ∈ l2, (Lit.int .i64 x0_).wf = true) → (l3.length ≤ maxLen ∧ l3.length * 8 ≤ 140737488351232 ∧ ∀ x0_ ∈ l3, (Lit.int .i64 x0_).wf = true) → ∃ k, Go.Proofs.Ytdnddekoankmmaa.Q.clepsydralaw13_PulseVotes.f k a0_0 a0_1 a0_2 a0_3 a0_4 a0_5 a0_6 a0_7 a0_8 a0_9 a0_10 a0_11 a1 l2 l3 = some true := by
  intro b0 b1 b2 b3 b4 b5 b6 b7 b8 b9 pu b11 f l z _ _ _ _ _ _ _ _ _ _ _ _ _ ⟨_, w1, _⟩ ⟨_, w2, _⟩
  have hw : wrap64 ((l.length : Int) + (z.length : Int)) = (l.length : Int) + (z.length : Int) := wrap_id (by omega) (by omega)
  have body : ∀ K, Q.clepsydralaw13_PulseVotes.l0 K f z [] (rd l 0) (rd l 0) l (l.length : Int) 0 b0 b1 b2 b3 b4 b5 b6 b7 b8 b9 pu b11 = some true ∨ ¬ ((l.length : Int) + (z.length : Int) ≤ 256 ∧ (z.length : Int) ≤ f) ∨ ¬ K = 0 + 70000 + l.length := fun K => by
    by_cases g : (l.length : Int) + (z.length : Int) ≤ 256 ∧ (z.length : Int) ≤ f
    · by_cases e : K = 0 + 70000 + l.length
      · refine .inl ?_
        rw [e]
        exact Votes_l0 b0 b1 b2 b3 b4 b5 b6 b7 b8 b9 pu b11 f l z (by omega) (by omega) l.length 0 0 _ _ [] (by omega) (by omega) (by omega) rfl (fun t ht => by simp at ht)
      · exact .inr (.inr e)
    · exact .inr (.inl g)
  have hK := body (0 + 70000 + l.length)
  have hp : 60 ≤ 0 + 70000 + l.length + 1 := by omega
  refine ⟨0 + 70000 + l.length + 1, ?_⟩
  have hr : ∃ K, 0 + 70000 + l.length = K := ⟨_, rfl⟩
  obtain ⟨K, hKe⟩ := hr
  rw [hKe] at hK hp ⊢
  have hne : ¬ ¬ K = K := fun h => h rfl
  clear body hKe
  exact votes_top b0 b1 b2 b3 b4 b5 b6 b7 b8 b9 pu b11 f l z K hp hw (fun g => by
    rcases hK with h | h | h
    · exact h
    · exact absurd g h
    · exact absurd h hne)
end Go.Proofs.Ytdnddekoankmmaa.Pure
