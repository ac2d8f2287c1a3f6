/- TrimHolds: the pure statement. -/
import Derived.Test.YtdnddekoankmmaaTb
namespace Go.Proofs.Ytdnddekoankmmaa.Pure
open Go.RowKit Go.Proofs.Ytdnddekoankmmaa.Q Go.Proofs.YtdnddekoankmmaaW.PrintWords Go.Proofs.YtdnddekoankmmaaW.PrintLast Go.Proofs.YtdnddekoankmmaaPl
open Go.Proofs.Ytdnddekoankmmaa.So (srt least has srt_length)
def rgt (x : Int) (s : S38) : Bool := decide (s.f0 ≤ x ∧ x ≤ s.f1)
theorem cnt_disj {α : Type} {p q : α → Bool} {l : List α} (h : ∀ x, x ∈ l → p x = true → q x = true → False) : l.countP p + l.countP q ≤ l.length := by
  induction l with
  | nil => simp
  | cons a l ih =>
    have ih' := ih (fun x hx => h x (List.mem_cons_of_mem _ hx))
    have ha := h a List.mem_cons_self
    rw [List.countP_cons, List.countP_cons, List.length_cons]
    by_cases g : p a = true
    · by_cases g1 : q a = true
      · exact (ha g g1).elim
      · rw [if_pos g, if_neg g1]; omega
    · rw [if_neg g]; split <;> omega
theorem mn_clip {a : Int} (h : -2305843009213693952 ≤ a) : mn a 2305843009213693952 = clip a := by
  unfold mn clip
  rw [if_neg (show ¬ a < -2305843009213693952 by omega)]
  repeat' split <;> omega
theorem mx_clip {a : Int} (h : a ≤ 2305843009213693952) : mx a (-2305843009213693952) = clip a := by
  unfold mx clip
  rw [if_neg (show ¬ a > 2305843009213693952 by omega)]
  repeat' split <;> omega
theorem holds_fuse (f : Int) (l : List S38) (x : Int) (hf : ¬ few f (l.length : Int) = true) (hr : (l.length : Int) - (l.countP (rgt x) : Int) ≤ f) :
    most f (lows l) ≤ x ∧ x ≤ least f (highs l) ∧ fuse f l = (clip (most f (lows l)), clip (least f (highs l)), true) := by
  obtain ⟨h0, h1⟩ := few_false hf
  have e1 : (lows l).length = l.length := List.length_map _
  have e2 : (highs l).length = l.length := List.length_map _
  have a := most_le (f := f) (l := lows l) h0 (by omega) x (by
    have : (lows l).countP (fun y => decide (y > x)) + l.countP (rgt x) ≤ l.length := by
      unfold lows
      rw [List.countP_map]
      refine cnt_disj (fun s _ g1 g2 => ?_)
      simp only [rgt, Function.comp, decide_eq_true_eq] at g1 g2
      omega
    omega)
  have b := least_ge (f := f) (l := highs l) h0 (by omega) x (by
    have : (highs l).countP (fun y => decide (y < x)) + l.countP (rgt x) ≤ l.length := by
      unfold highs
      rw [List.countP_map]
      refine cnt_disj (fun s _ g1 g2 => ?_)
      simp only [rgt, Function.comp, decide_eq_true_eq] at g1 g2
      omega
    omega)
  refine ⟨a, b, ?_⟩
  unfold fuse fin
  rw [if_neg hf, if_neg (by omega)]
theorem holds_wide (f : Int) (l : List S38) (x : Int) (hf : ¬ few f (l.length : Int) = true) (hr : 2 * f + 1 ≤ (l.countP (rgt x) : Int)) : ∃ s, s ∈ l ∧ rgt x s = true ∧ s.f0 ≤ most f (lows l) ∧ least f (highs l) ≤ s.f1 := by
  obtain ⟨h0, h1⟩ := few_false hf
  have e1 : (lows l).length = l.length := List.length_map _
  have e2 : (highs l).length = l.length := List.length_map _
  have a := most_cnt (f := f) (l := lows l) h0 (by omega)
  have b := least_cnt (f := f) (l := highs l) h0 (by omega)
  by_cases g : ∃ s, s ∈ l ∧ rgt x s = true ∧ s.f0 ≤ most f (lows l) ∧ least f (highs l) ≤ s.f1
  · exact g
  · have := cnt_or (l := l) (p := rgt x) (q := fun s => decide (s.f0 > most f (lows l))) (r := fun s => decide (s.f1 < least f (highs l))) (fun s hs hp => by
      by_cases g1 : s.f0 > most f (lows l)
      · exact .inl (decide_eq_true g1)
      · by_cases g2 : s.f1 < least f (highs l)
        · exact .inr (decide_eq_true g2)
        · exact absurd ⟨s, hs, hp, by omega, by omega⟩ g)
    have c1 : (lows l).countP (fun y => decide (y > most f (lows l))) = l.countP (fun s => decide (s.f0 > most f (lows l))) := List.countP_map
    have c2 : (highs l).countP (fun y => decide (y < least f (highs l))) = l.countP (fun s => decide (s.f1 < least f (highs l))) := List.countP_map
    omega
theorem Holds_l0 (f : Int) (l : List S38) (x : Int) (hl : l.length ≤ 256) (hf : ¬ few f (l.length : Int) = true) (hf2 : f ≤ 256) (hx0 : -2305843009213693952 ≤ x) (hx1 : x ≤ 2305843009213693952) : ∀ (d k : Nat) (i c w : Int), 0 ≤ i → i ≤ l.length → (l.length : Int) - i = d → 0 ≤ c → c ≤ i → 0 ≤ w → w ≤ 4611686018427387904 →
    c + (l.drop i.toNat).countP (rgt x) = l.countP (rgt x) → (∀ s, s ∈ l.take i.toNat → rgt x s = true → clip s.f1 - clip s.f0 ≤ w) →
    Q.clepsydralaw07_TrimHolds.l0 (k + 300 + d) f l x c w l (l.length : Int) i = some true := by
  intro d
  induction d with
  | zero =>
    intro k i c w h0 h1 hd c0 c1 w0 w1 hc hw
    rw [drop_end l i (by omega)] at hc
    rw [List.take_of_length_le (by omega)] at hw
    simp only [List.countP_nil, Int.natCast_zero, Int.add_zero] at hc
    obtain ⟨f0, f1⟩ := few_false hf
    rw [Nat.add_zero, Q.clepsydralaw07_TrimHolds.l0, if_neg (by omega), wrap_id (x := (l.length : Int) - c) (by omega) (by omega)]
    by_cases g : (l.length : Int) - c > f
    · rw [if_pos g]
    · rw [if_neg g, Fuse_f f l (by omega) (k + 299) (by omega)]
      obtain ⟨e1, e2, e3⟩ := holds_fuse f l x hf (by omega)
      rw [e3]
      simp only [Option.bind_some, if_true]
      have b1 := clip_mono e1
      have b2 := clip_mono e2
      rw [clip_id hx0 hx1] at b1 b2
      have b3 := clip_bd (most f (lows l))
      have b4 := clip_bd (least f (highs l))
      rw [if_pos b1, if_pos b2, wrap_id (x := 2 * f) (by omega) (by omega), wrap_id (x := 2 * f + 1) (by omega) (by omega)]
      by_cases g2 : c < 2 * f + 1
      · rw [if_pos g2]
      · rw [if_neg g2, wrap_id (by omega) (by omega)]
        obtain ⟨s, hs, hp, q1, q2⟩ := holds_wide f l x hf (by omega)
        have := hw s hs hp
        have := clip_mono q1
        have := clip_mono q2
        rw [decide_eq_true (by omega)]
  | succ d ih =>
    intro k i c w h0 h1 hd c0 c1 w0 w1 hc hw
    rw [drop_at z38 l i h0 (by omega), List.countP_cons] at hc
    have ht := take_at z38 l i h0 (by omega)
    change _ + ((List.countP _ _ + (if rgt x (rd_T38 l i) = true then 1 else 0) : Nat) : Int) = _ at hc
    change _ = _ ++ [rd_T38 l i] at ht
    rw [← Nat.add_assoc, Q.clepsydralaw07_TrimHolds.l0, if_pos (by omega), if_pos h0, if_pos (by omega)]
    generalize rd_T38 l i = m at *
    have b0 := clip_bd m.f0
    have b1 := clip_bd m.f1
    rw [wrap_id (x := i + 1) (by omega) (by omega), wrap_id (x := c + 1) (by omega) (by omega)]
    have no : rgt x m = false → Q.clepsydralaw07_TrimHolds.l0 (k + 300 + d) f l x c w l (l.length : Int) (i + 1) = some true := fun g => by
      rw [if_neg (by simp [g])] at hc
      refine ih k (i + 1) c w (by omega) (by omega) (by omega) c0 (by omega) w0 w1 (by omega) (fun s hs hp => ?_)
      rw [ht] at hs
      rcases List.mem_append.1 hs with hs | hs
      · exact hw s hs hp
      · rw [List.mem_singleton.1 hs, g] at hp
        cases hp
    by_cases g1 : m.f0 ≤ x
    · rw [if_pos g1]
      by_cases g2 : x ≤ m.f1
      · rw [if_pos g2, mn_clip (by omega), mx_clip (by omega), wrap_id (x := clip m.f1 - clip m.f0) (by omega) (by omega)]
        have g : rgt x m = true := decide_eq_true ⟨g1, g2⟩
        rw [if_pos g] at hc
        have hmx : w ≤ mx w (clip m.f1 - clip m.f0) ∧ clip m.f1 - clip m.f0 ≤ mx w (clip m.f1 - clip m.f0) ∧ mx w (clip m.f1 - clip m.f0) ≤ 4611686018427387904 := by
          unfold mx
          split <;> omega
        refine ih k (i + 1) (c + 1) _ (by omega) (by omega) (by omega) (by omega) (by omega) (by omega) (by omega) (by omega) (fun s hs hp => ?_)
        rw [ht] at hs
        rcases List.mem_append.1 hs with hs | hs
        · have := hw s hs hp
          omega
        · rw [List.mem_singleton.1 hs]
          omega
      · rw [if_neg g2]
        exact no (decide_eq_false (by omega))
    · rw [if_neg g1]
      exact no (decide_eq_false (by omega))
theorem TrimHolds : ∀ (a0 : Int) (l1 : List (Go.Proofs.Ytdnddekoankmmaa.Q.S38)) (a2 : Int), (Lit.int .i64 a0).wf = true → (l1.length ≤ maxLen ∧ l1.length * 16 ≤ 140737488351232 ∧ ∀ x0_ ∈ l1, ((Lit.int .i64 x0_.f0).wf = true ∧ (Lit.int .i64 x0_.f1).wf = true)) → (Lit.int .i64 a2).wf = true → ∃ k, Go.Proofs.Ytdnddekoankmmaa.Q.clepsydralaw07_TrimHolds.f k a0 l1 a2 = some true := by
  intro f l x _ _ _
  refine ⟨0 + 300 + l.length + 1, ?_⟩
  unfold Q.clepsydralaw07_TrimHolds.f
  have hj : Q.clepsydralaw07_TrimHolds.j0 (0 + 300 + l.length + 1) f l x true = some true := by rw [Q.clepsydralaw07_TrimHolds.j0, if_pos rfl]
  rw [alive07_f _ (by omega)]
  simp only [Option.bind_some, if_true]
  by_cases hl : (l.length : Int) > 256
  · rw [if_pos hl, hj]
  rw [if_neg hl]
  by_cases h0 : f < 0
  · rw [if_pos h0, hj]
  rw [if_neg h0]
  by_cases h1 : f > 256
  · rw [if_pos h1, hj]
  rw [if_neg h1, wrap_id (x := 2 * f) (by omega) (by omega), wrap_id (by omega) (by omega)]
  by_cases h2 : (l.length : Int) < 2 * f + 1
  · rw [if_pos h2, hj]
  rw [if_neg h2]
  by_cases h3 : x > 2305843009213693952
  · rw [if_pos h3, hj]
  rw [if_neg h3]
  by_cases h4 : x < -2305843009213693952
  · rw [decide_eq_true h4, hj]
  rw [decide_eq_false h4, Q.clepsydralaw07_TrimHolds.j0, if_neg (by simp)]
  exact Holds_l0 f l x (by omega) (by unfold few; simp; omega) (by omega) (by omega) (by omega) l.length 0 0 0 0 (by omega) (by omega) (by omega) (by omega) (by omega) (by omega) (by omega) (by simp) (fun s hs => by simp at hs)
end Go.Proofs.Ytdnddekoankmmaa.Pure
