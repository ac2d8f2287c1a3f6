/- Plain laws on the k-th least: what is picked out of the sorted numbers is what the document counts. -/
import Derived.Test.YtdnddekoankmmaaGl
import Derived.Test.YtdnddekoankmmaaQ10
import Derived.Test.YtdnddekoankmmaaQ11
import Derived.Test.YtdnddekoankmmaaPl
namespace Go.Proofs.Ytdnddekoankmmaa.Q
open Go.RowKit Go.Proofs.YtdnddekoankmmaaW.PrintWords Go.Proofs.YtdnddekoankmmaaW.PrintLast Go.Proofs.YtdnddekoankmmaaW.PrintMore Go.Proofs.YtdnddekoankmmaaPl
open Go.Proofs.Ytdnddekoankmmaa.So (srt least has srt_length)
theorem srt_perm (l : List Int) : (srt l).Perm l := List.mergeSort_perm _ _
theorem srt_sorted (l : List Int) : (srt l).Pairwise (· ≤ ·) := by
  have h := List.pairwise_mergeSort (le := fun x y : Int => decide (x ≤ y)) (fun a b c h g => by simp only [decide_eq_true_eq] at *; omega) (fun a b => by
    rcases Int.le_total a b with h | h
    · simp [h]
    · simp [h]) l
  exact h.imp (fun h => by simpa using h)
theorem cnt_iff (p : Int → Bool) (hp : ∀ a b, a ≤ b → p b = true → p a = true) : ∀ (s : List Int), s.Pairwise (· ≤ ·) → ∀ k, k < s.length → (p (s.getD k 0) = true ↔ k < s.countP p) := by
  intro s
  induction s with
  | nil => intro _ k hk; simp at hk
  | cons a t ih =>
    intro hs k hk
    obtain ⟨h1, h2⟩ := List.pairwise_cons.1 hs
    by_cases ha : p a = true
    · rw [List.countP_cons_of_pos ha]
      cases k with
      | zero => simp [ha]
      | succ k =>
        have := ih h2 k (by simpa using hk)
        rw [List.getD_cons_succ, this]
        omega
    · rw [List.countP_cons_of_neg ha]
      have hz : t.countP p = 0 := List.countP_eq_zero.2 (fun b hb hpb => ha (hp a b (h1 b hb) hpb))
      rw [hz]
      constructor
      · intro h
        cases k with
        | zero => exact absurd h ha
        | succ k =>
          rw [List.getD_cons_succ] at h
          have hk' : k < t.length := by simpa using hk
          have hm : t.getD k 0 ∈ t := by
            rw [List.getD_eq_getElem?_getD, List.getElem?_eq_getElem hk']
            exact List.getElem_mem _
          exact absurd (hp a _ (h1 _ hm) h) ha
      · intro h; omega
theorem srt_lt (l : List Int) (k : Nat) (hk : k < l.length) (x : Int) : (srt l).getD k 0 < x ↔ k < l.countP (fun y => decide (y < x)) := by
  have h := cnt_iff (fun y => decide (y < x)) (fun a b h g => by simp only [decide_eq_true_eq] at *; omega) (srt l) (srt_sorted l) k (by rw [srt_length]; exact hk)
  rw [(srt_perm l).countP_eq] at h
  simpa using h
theorem srt_le (l : List Int) (k : Nat) (hk : k < l.length) (x : Int) : (srt l).getD k 0 ≤ x ↔ k < l.countP (fun y => decide (y ≤ x)) := by
  have h := cnt_iff (fun y => decide (y ≤ x)) (fun a b h g => by simp only [decide_eq_true_eq] at *; omega) (srt l) (srt_sorted l) k (by rw [srt_length]; exact hk)
  rw [(srt_perm l).countP_eq] at h
  simpa using h
theorem srt_mem (l : List Int) (k : Nat) (hk : k < l.length) : (srt l).getD k 0 ∈ l := by
  rw [← (srt_perm l).mem_iff, List.getD_eq_getElem?_getD, List.getElem?_eq_getElem (by rw [srt_length]; exact hk)]
  exact List.getElem_mem _
/-- What the document counts tells the k-th least. -/
theorem srt_is (l : List Int) (k : Nat) (hk : k < l.length) (x : Int) : (srt l).getD k 0 = x ↔ l.countP (fun y => decide (y < x)) ≤ k ∧ k < l.countP (fun y => decide (y ≤ x)) := by
  have h1 := srt_lt l k hk x
  have h2 := srt_le l k hk x
  omega
theorem refLeast_l1 (a0 : Int) (l : List Int) (x : Int) (n i : Int) (hl : l.length ≤ 4096) : ∀ (d m : Nat) (b u j : Int), 0 ≤ j → j ≤ l.length → (l.length : Int) - j = d → 0 ≤ b → b ≤ j → 0 ≤ u → u ≤ j →
    b + (l.drop j.toNat).countP (fun y => decide (y < x)) = l.countP (fun y => decide (y < x)) → u + (l.drop j.toNat).countP (fun y => decide (y ≤ x)) = l.countP (fun y => decide (y ≤ x)) →
    clepsydraref07_Least.l1 (m + 1 + d) a0 l x b u l n i l (l.length : Int) j = if (l.countP (fun y => decide (y < x)) : Int) ≤ a0 then (if a0 < (l.countP (fun y => decide (y ≤ x)) : Int) then some (x, true) else clepsydraref07_Least.l0 m a0 l l n (wrap64 (i + 1))) else clepsydraref07_Least.l0 m a0 l l n (wrap64 (i + 1)) := by
  intro d
  induction d with
  | zero =>
    intro m b u j h0 h1 hd _ _ _ _ hb hu
    rw [drop_end l j (by omega)] at hb hu
    simp only [List.countP_nil, Int.natCast_zero, Int.add_zero] at hb hu
    rw [Nat.add_zero, clepsydraref07_Least.l1, if_neg (by omega), hb, hu]
  | succ d ih =>
    intro m b u j h0 h1 hd b0 b1 u0 u1 hb hu
    rw [drop_at 0 l j h0 (by omega), List.countP_cons] at hb hu
    rw [← Nat.add_assoc, clepsydraref07_Least.l1, if_pos (by omega), if_pos h0, if_pos (by omega)]
    change _ + ((List.countP _ _ + (if decide (rd l j < x) = true then 1 else 0) : Nat) : Int) = _ at hb
    change _ + ((List.countP _ _ + (if decide (rd l j ≤ x) = true then 1 else 0) : Nat) : Int) = _ at hu
    generalize rd l j = y at *
    rw [wrap_id (x := j + 1) (by omega) (by omega), wrap_id (x := b + 1) (by omega) (by omega), wrap_id (x := u + 1) (by omega) (by omega)]
    by_cases g1 : y < x
    · rw [if_pos g1, if_pos (show y ≤ x by omega)]
      rw [if_pos (decide_eq_true g1)] at hb
      rw [if_pos (decide_eq_true (show y ≤ x by omega))] at hu
      exact ih m (b + 1) (u + 1) (j + 1) (by omega) (by omega) (by omega) (by omega) (by omega) (by omega) (by omega) (by omega) (by omega)
    · rw [if_neg g1]
      rw [if_neg (by simpa using g1)] at hb
      by_cases g2 : y ≤ x
      · rw [if_pos g2]
        rw [if_pos (decide_eq_true g2)] at hu
        exact ih m b (u + 1) (j + 1) (by omega) (by omega) (by omega) (by omega) (by omega) (by omega) (by omega) (by omega) (by omega)
      · rw [if_neg g2]
        rw [if_neg (by simpa using g2)] at hu
        exact ih m b u (j + 1) (by omega) (by omega) (by omega) (by omega) (by omega) (by omega) (by omega) (by omega) (by omega)
theorem refLeast_l0 (a0 : Int) (l : List Int) (hl : l.length ≤ 4096) (ha : 0 ≤ a0) (ha2 : a0 < (l.length : Int)) : ∀ (d m : Nat) (i : Int), 0 ≤ i → i ≤ l.length → (l.length : Int) - i = d → (srt l).getD a0.toNat 0 ∈ l.drop i.toNat →
    clepsydraref07_Least.l0 (m + 1 + d * (l.length + 2)) a0 l l (l.length : Int) i = some ((srt l).getD a0.toNat 0, true) := by
  intro d
  induction d with
  | zero =>
    intro m i h0 h1 hd hm
    rw [drop_end l i (by omega)] at hm
    simp at hm
  | succ d ih =>
    intro m i h0 h1 hd hm
    rw [show m + 1 + (d + 1) * (l.length + 2) = ((m + 1 + d * (l.length + 2)) + 1 + l.length) + 1 by rw [Nat.add_mul]; omega]
    rw [clepsydraref07_Least.l0, if_pos (by omega), if_pos h0, if_pos (by omega)]
    rw [drop_at 0 l i h0 (by omega)] at hm
    change _ ∈ rd l i :: _ at hm
    generalize rd l i = x at *
    rw [refLeast_l1 a0 l x (l.length : Int) i hl l.length (m + 1 + d * (l.length + 2)) 0 0 0 (by omega) (by omega) (by omega) (by omega) (by omega) (by omega) (by omega) (by simp) (by simp)]
    have hs := srt_is l a0.toNat (by omega) x
    by_cases g : (srt l).getD a0.toNat 0 = x
    · obtain ⟨g1, g2⟩ := hs.1 g
      rw [if_pos (by omega), if_pos (by omega), g]
    · have hm' : (srt l).getD a0.toNat 0 ∈ l.drop (i + 1).toNat := by
        rcases List.mem_cons.1 hm with h | h
        · exact absurd h g
        · exact h
      have e := ih m (i + 1) (by omega) (by omega) (by omega) hm'
      rw [wrap_id (x := i + 1) (by omega) (by omega), e]
      by_cases g1 : (l.countP (fun y => decide (y < x)) : Int) ≤ a0
      · rw [if_pos g1, if_neg (fun g2 => g (hs.2 ⟨by omega, by omega⟩))]
      · rw [if_neg g1]
theorem refLeast_f (a0 : Int) (l : List Int) (hl : l.length ≤ 4096) (k : Nat) (hk : 2 + l.length * (l.length + 2) ≤ k) : clepsydraref07_Least.f k a0 l = some (least a0 l, has a0 l) := by
  obtain ⟨k, rfl⟩ : ∃ m, k = m + 1 + l.length * (l.length + 2) + 1 := ⟨k - (2 + l.length * (l.length + 2)), by omega⟩
  unfold clepsydraref07_Least.f least has
  by_cases h0 : a0 < 0
  · rw [if_pos h0, clepsydraref07_Least.j0, if_pos rfl, if_neg (by omega), decide_eq_false (by omega)]
  · rw [if_neg h0, clepsydraref07_Least.j0]
    by_cases h1 : a0 ≥ (l.length : Int)
    · rw [if_pos (decide_eq_true h1), if_neg (by omega), decide_eq_false (by omega)]
    · rw [if_neg (by simpa using h1), refLeast_l0 a0 l hl (by omega) (by omega) l.length k 0 (by omega) (by omega) (by omega) (by simpa using srt_mem l a0.toNat (by omega)), if_pos (by omega), decide_eq_true (by omega)]
theorem Least_f (a0 : Int) (l : List Int) (hl : l.length ≤ 4096) : trim_Least.f a0 l = some (least a0 l, has a0 l) := by
  unfold trim_Least.f
  rw [if_pos (by omega)]
theorem least_is {a0 : Int} {l : List Int} {x : Int} (h0 : 0 ≤ a0) (h1 : a0 < (l.length : Int)) (h2 : l.countP (fun y => decide (y < x)) ≤ a0.toNat) (h3 : a0.toNat < l.countP (fun y => decide (y ≤ x))) : least a0 l = x := by
  unfold least
  rw [if_pos ⟨h0, h1⟩]
  exact (srt_is l a0.toNat (by omega) x).2 ⟨h2, h3⟩
/-- The k-th greatest. -/
def most (a0 : Int) (l : List Int) : Int := if 0 ≤ a0 ∧ a0 < (l.length : Int) then (srt l).getD (l.length - 1 - a0.toNat) 0 else 0
theorem least_most {a0 : Int} {l : List Int} (h0 : 0 ≤ a0) (h1 : a0 < (l.length : Int)) : least ((l.length : Int) - 1 - a0) l = most a0 l ∧ has ((l.length : Int) - 1 - a0) l = true := by
  unfold least most has
  rw [if_pos (by omega), if_pos (by omega), show ((l.length : Int) - 1 - a0).toNat = l.length - 1 - a0.toNat by omega]
  exact ⟨rfl, decide_eq_true (by omega)⟩
theorem most_is {a0 : Int} {l : List Int} {x : Int} (h0 : 0 ≤ a0) (h1 : a0 < (l.length : Int)) (h2 : l.countP (fun y => decide (y < x)) ≤ l.length - 1 - a0.toNat) (h3 : l.length - 1 - a0.toNat < l.countP (fun y => decide (y ≤ x))) : most a0 l = x := by
  unfold most
  rw [if_pos ⟨h0, h1⟩]
  exact (srt_is l (l.length - 1 - a0.toNat) (by omega) x).2 ⟨h2, h3⟩
theorem Most_f (a0 : Int) (l : List Int) (hl : l.length ≤ 4096) : trim_Most.f a0 l = some (most a0 l, has a0 l) := by
  unfold trim_Most.f
  by_cases h0 : a0 < 0
  · rw [if_pos h0]; unfold most has; rw [if_neg (by omega), decide_eq_false (by omega)]
  · rw [if_neg h0]
    by_cases h1 : a0 ≥ (l.length : Int)
    · rw [if_pos h1]; unfold most has; rw [if_neg (by omega), decide_eq_false (by omega)]
    · rw [if_neg h1, wrap_id (x := (l.length : Int) - 1) (by omega) (by omega), wrap_id (by omega) (by omega), Least_f _ l hl]
      obtain ⟨e1, e2⟩ := least_most (a0 := a0) (l := l) (by omega) (by omega)
      rw [e1, e2]
      unfold has
      rw [decide_eq_true (by omega)]
      rfl
theorem refMost_f (a0 : Int) (l : List Int) (hl : l.length ≤ 4096) (k : Nat) (hk : 2 + l.length * (l.length + 2) ≤ k) : clepsydraref07_Most.f k a0 l = some (most a0 l, has a0 l) := by
  unfold clepsydraref07_Most.f
  by_cases h0 : a0 < 0
  · rw [if_pos h0]; unfold most has; rw [if_neg (by omega), decide_eq_false (by omega)]
  · rw [if_neg h0]
    by_cases h1 : a0 ≥ (l.length : Int)
    · rw [if_pos h1]; unfold most has; rw [if_neg (by omega), decide_eq_false (by omega)]
    · rw [if_neg h1, wrap_id (x := (l.length : Int) - 1) (by omega) (by omega), wrap_id (by omega) (by omega), refLeast_f _ l hl k hk]
      obtain ⟨e1, e2⟩ := least_most (a0 := a0) (l := l) (by omega) (by omega)
      rw [e1, e2]
      unfold has
      rw [decide_eq_true (by omega)]
      rfl
theorem Bound_f (k : Nat) (x a b : Int) (h : a ≤ b) : sat_Bound.f (k + 1) x a b = some (if x < a then a else if x > b then b else x) := by
  unfold sat_Bound.f
  by_cases h1 : x < a
  · rw [if_pos h1, if_pos h1, sat_Bound.j0, if_pos rfl]
  · rw [if_neg h1, if_neg h1, sat_Bound.j0, if_neg (by simpa using h)]
    by_cases h2 : x > b
    · rw [if_pos h2, if_pos h2]
    · rw [if_neg h2, if_neg h2]
theorem Clip_f (k : Nat) (x : Int) : sat_Clip.f (k + 1) x = some (clip x) := by
  unfold sat_Clip.f
  rw [Bound_f k x _ _ (by omega)]
  rfl
theorem refClip_f (x : Int) : clepsydraref01_Clip.f x = some (clip x) := by
  unfold clepsydraref01_Clip.f clip
  by_cases h1 : x > 2305843009213693952
  · rw [if_pos h1, if_neg (by omega), if_pos h1]
  · rw [if_neg h1]
    by_cases h2 : x < -2305843009213693952
    · rw [if_pos h2, if_pos h2]
    · rw [if_neg h2, if_neg h2, if_neg h1]
/-- The middle of two numbers. -/
def mid (a b : Int) : Int := (clip a + clip b) / 2
theorem Mid_f (k : Nat) (a b : Int) : span_Mid.f (k + 1) a b = some (mid a b) := by
  have h1 := clip_bd a
  have h2 := clip_bd b
  unfold span_Mid.f mid
  rw [Clip_f, Clip_f]
  simp only [Option.bind_some]
  rw [wrap_id (by omega) (by omega)]
theorem refMid_f (a b : Int) : clepsydraref03_Mid.f a b = some (mid a b) := by
  have h1 := clip_bd a
  have h2 := clip_bd b
  unfold clepsydraref03_Mid.f mid
  rw [refClip_f, refClip_f]
  simp only [Option.bind_some]
  generalize clip a = x at *
  generalize clip b = y at *
  rw [wrap_id (x := x + y) (by omega) (by omega)]
  have ht : ∀ z : Int, z % 2 = 0 → z.tdiv 2 = z / 2 := fun z hz => Int.tdiv_eq_ediv_of_dvd (by omega)
  by_cases g : (x + y).tmod 2 = 0
  · have hd : (x + y) % 2 = 0 := by
      have := Int.dvd_of_tmod_eq_zero g
      omega
    rw [if_pos g, ht _ hd, wrap_id (by omega) (by omega)]
  · have hd : (x + y) % 2 = 1 := by
      have h : ¬ (2 : Int) ∣ x + y := fun h => g (Int.tmod_eq_zero_of_dvd h)
      omega
    rw [if_neg g, wrap_id (x := x + y - 1) (by omega) (by omega), ht _ (by omega), wrap_id (by omega) (by omega)]
    congr 1
    omega
/-- Are there too few of which f may be wrong? -/
def few (f n : Int) : Bool := decide (f < 0 ∨ n < 2 * f + 1)
def middle (f : Int) (l : List Int) : Int × Bool := if few f (l.length : Int) = true then (0, false) else (mid (least f l) (most f l), true)
theorem Middle_f (k : Nat) (f : Int) (l : List Int) (hl : l.length ≤ 4096) : trim_Middle.f (k + 2) f l = some (middle f l) := by
  unfold trim_Middle.f middle few
  by_cases h0 : f < 0
  · rw [if_pos h0, trim_Middle.j0, if_pos rfl, if_pos (decide_eq_true (by omega))]
  · rw [if_neg h0]
    by_cases h1 : f ≥ (l.length : Int)
    · rw [if_pos h1, trim_Middle.j0, if_pos rfl, if_pos (decide_eq_true (by omega))]
    · rw [if_neg h1, wrap_id (x := (l.length : Int) - f) (by omega) (by omega), trim_Middle.j0]
      by_cases h2 : (l.length : Int) - f ≤ f
      · rw [if_pos (decide_eq_true h2), if_pos (decide_eq_true (by omega))]
      · rw [if_neg (by simpa using h2), if_neg (by simp; omega), Least_f f l hl, Most_f f l hl]
        simp only [Option.bind_some]
        rw [Mid_f]
        rfl
theorem Few_f (f n : Int) (hn : 0 ≤ n) (hn2 : n ≤ 4096) : clepsydraref07_Few.f f n = some (few f n) := by
  unfold clepsydraref07_Few.f few
  by_cases h0 : f < 0
  · rw [if_pos h0, decide_eq_true (by omega)]
  · rw [if_neg h0]
    by_cases h1 : f > n
    · rw [if_pos h1, decide_eq_true (by omega)]
    · rw [if_neg h1, wrap_id (x := 2 * f) (by omega) (by omega), wrap_id (by omega) (by omega)]
      congr 1
      rw [decide_eq_decide]
      omega
theorem refMiddle_f (k : Nat) (f : Int) (l : List Int) (hl : l.length ≤ 4096) (hk : 2 + l.length * (l.length + 2) ≤ k) : clepsydraref07_Middle.f k f l = some (middle f l) := by
  unfold clepsydraref07_Middle.f middle
  rw [Few_f f _ (by omega) (by omega)]
  simp only [Option.bind_some]
  by_cases h : few f (l.length : Int) = true
  · rw [if_pos h, if_pos h]
  · rw [if_neg h, if_neg h, refLeast_f f l hl k hk, refMost_f f l hl k hk]
    simp only [Option.bind_some]
    rw [refMid_f]
    rfl
end Go.Proofs.Ytdnddekoankmmaa.Q
