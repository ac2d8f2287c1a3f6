/- Plain laws on what is picked and fused, for the three laws on what is agreed upon. -/
import Derived.Test.YtdnddekoankmmaaJg
import Derived.Test.YtdnddekoankmmaaPl
import Derived.Test.YtdnddekoankmmaaJ11
import Derived.Test.YtdnddekoankmmaaJ12
import Derived.Test.YtdnddekoankmmaaJ13
namespace Go.Proofs.Ytdnddekoankmmaa.J
open Go.RowKit Go.Proofs.YtdnddekoankmmaaW.PrintWords Go.Proofs.YtdnddekoankmmaaW.PrintLast Go.Proofs.YtdnddekoankmmaaW.PrintMore Go.Proofs.YtdnddekoankmmaaPl
open Go.Proofs.Ytdnddekoankmmaa.So (srt least has srt_length)
theorem srt_perm (l : List Int) : (srt l).Perm l := List.mergeSort_perm _ _
theorem srt_sorted (l : List Int) : (srt l).Pairwise (· ≤ ·) := by
  have h := List.pairwise_mergeSort (le := fun x y : Int => decide (x ≤ y)) (fun a b c h g => by simp only [decide_eq_true_eq] at *; omega) (fun a b => by
    rcases Int.le_total a b with h | h
    · simp [h]
    · simp [h]) l
  exact h.imp (fun h => by simpa using h)
theorem cnt_iff (p : Int → Bool) (hp : ∀ a b, a ≤ b → p b = true → p a = true) : ∀ (s : List Int), s.Pairwise (· ≤ ·) → ∀ k, k < s.length → (p (s.getD k 0) = true ↔ k < s.countP p) := by
  intro s
  induction s with
  | nil => intro _ k hk; simp at hk
  | cons a t ih =>
    intro hs k hk
    obtain ⟨h1, h2⟩ := List.pairwise_cons.1 hs
    by_cases ha : p a = true
    · rw [List.countP_cons_of_pos ha]
      cases k with
      | zero => simp [ha]
      | succ k =>
        have := ih h2 k (by simpa using hk)
        rw [List.getD_cons_succ, this]
        omega
    · rw [List.countP_cons_of_neg ha]
      have hz : t.countP p = 0 := List.countP_eq_zero.2 (fun b hb hpb => ha (hp a b (h1 b hb) hpb))
      rw [hz]
      constructor
      · intro h
        cases k with
        | zero => exact absurd h ha
        | succ k =>
          rw [List.getD_cons_succ] at h
          have hk' : k < t.length := by simpa using hk
          have hm : t.getD k 0 ∈ t := by
            rw [List.getD_eq_getElem?_getD, List.getElem?_eq_getElem hk']
            exact List.getElem_mem _
          exact absurd (hp a _ (h1 _ hm) h) ha
      · intro h; omega
theorem srt_lt (l : List Int) (k : Nat) (hk : k < l.length) (x : Int) : (srt l).getD k 0 < x ↔ k < l.countP (fun y => decide (y < x)) := by
  have h := cnt_iff (fun y => decide (y < x)) (fun a b h g => by simp only [decide_eq_true_eq] at *; omega) (srt l) (srt_sorted l) k (by rw [srt_length]; exact hk)
  rw [(srt_perm l).countP_eq] at h
  simpa using h
theorem srt_le (l : List Int) (k : Nat) (hk : k < l.length) (x : Int) : (srt l).getD k 0 ≤ x ↔ k < l.countP (fun y => decide (y ≤ x)) := by
  have h := cnt_iff (fun y => decide (y ≤ x)) (fun a b h g => by simp only [decide_eq_true_eq] at *; omega) (srt l) (srt_sorted l) k (by rw [srt_length]; exact hk)
  rw [(srt_perm l).countP_eq] at h
  simpa using h
theorem srt_mem (l : List Int) (k : Nat) (hk : k < l.length) : (srt l).getD k 0 ∈ l := by
  rw [← (srt_perm l).mem_iff, List.getD_eq_getElem?_getD, List.getElem?_eq_getElem (by rw [srt_length]; exact hk)]
  exact List.getElem_mem _
/-- What the document counts tells the k-th least. -/
theorem srt_is (l : List Int) (k : Nat) (hk : k < l.length) (x : Int) : (srt l).getD k 0 = x ↔ l.countP (fun y => decide (y < x)) ≤ k ∧ k < l.countP (fun y => decide (y ≤ x)) := by
  have h1 := srt_lt l k hk x
  have h2 := srt_le l k hk x
  omega
theorem Least_f (a0 : Int) (l : List Int) (hl : l.length ≤ 4096) : trim_Least.f a0 l = some (least a0 l, has a0 l) := by
  unfold trim_Least.f
  rw [if_pos (by omega)]
theorem least_is {a0 : Int} {l : List Int} {x : Int} (h0 : 0 ≤ a0) (h1 : a0 < (l.length : Int)) (h2 : l.countP (fun y => decide (y < x)) ≤ a0.toNat) (h3 : a0.toNat < l.countP (fun y => decide (y ≤ x))) : least a0 l = x := by
  unfold least
  rw [if_pos ⟨h0, h1⟩]
  exact (srt_is l a0.toNat (by omega) x).2 ⟨h2, h3⟩
/-- The k-th greatest. -/
def most (a0 : Int) (l : List Int) : Int := if 0 ≤ a0 ∧ a0 < (l.length : Int) then (srt l).getD (l.length - 1 - a0.toNat) 0 else 0
theorem least_most {a0 : Int} {l : List Int} (h0 : 0 ≤ a0) (h1 : a0 < (l.length : Int)) : least ((l.length : Int) - 1 - a0) l = most a0 l ∧ has ((l.length : Int) - 1 - a0) l = true := by
  unfold least most has
  rw [if_pos (by omega), if_pos (by omega), show ((l.length : Int) - 1 - a0).toNat = l.length - 1 - a0.toNat by omega]
  exact ⟨rfl, decide_eq_true (by omega)⟩
theorem most_is {a0 : Int} {l : List Int} {x : Int} (h0 : 0 ≤ a0) (h1 : a0 < (l.length : Int)) (h2 : l.countP (fun y => decide (y < x)) ≤ l.length - 1 - a0.toNat) (h3 : l.length - 1 - a0.toNat < l.countP (fun y => decide (y ≤ x))) : most a0 l = x := by
  unfold most
  rw [if_pos ⟨h0, h1⟩]
  exact (srt_is l (l.length - 1 - a0.toNat) (by omega) x).2 ⟨h2, h3⟩
theorem Most_f (a0 : Int) (l : List Int) (hl : l.length ≤ 4096) : trim_Most.f a0 l = some (most a0 l, has a0 l) := by
  unfold trim_Most.f
  by_cases h0 : a0 < 0
  · rw [if_pos h0]; unfold most has; rw [if_neg (by omega), decide_eq_false (by omega)]
  · rw [if_neg h0]
    by_cases h1 : a0 ≥ (l.length : Int)
    · rw [if_pos h1]; unfold most has; rw [if_neg (by omega), decide_eq_false (by omega)]
    · rw [if_neg h1, wrap_id (x := (l.length : Int) - 1) (by omega) (by omega), wrap_id (by omega) (by omega), Least_f _ l hl]
      obtain ⟨e1, e2⟩ := least_most (a0 := a0) (l := l) (by omega) (by omega)
      rw [e1, e2]
      unfold has
      rw [decide_eq_true (by omega)]
      rfl
theorem Bound_f (k : Nat) (x a b : Int) (h : a ≤ b) : sat_Bound.f (k + 1) x a b = some (if x < a then a else if x > b then b else x) := by
  unfold sat_Bound.f
  by_cases h1 : x < a
  · rw [if_pos h1, if_pos h1, sat_Bound.j0, if_pos rfl]
  · rw [if_neg h1, if_neg h1, sat_Bound.j0, if_neg (by simpa using h)]
    by_cases h2 : x > b
    · rw [if_pos h2, if_pos h2]
    · rw [if_neg h2, if_neg h2]
theorem Clip_f (k : Nat) (x : Int) : sat_Clip.f (k + 1) x = some (clip x) := by
  unfold sat_Clip.f
  rw [Bound_f k x _ _ (by omega)]
  rfl
def mid (a b : Int) : Int := (clip a + clip b) / 2
theorem Mid_f (k : Nat) (a b : Int) : span_Mid.f (k + 1) a b = some (mid a b) := by
  have h1 := clip_bd a
  have h2 := clip_bd b
  unfold span_Mid.f mid
  rw [Clip_f, Clip_f]
  simp only [Option.bind_some]
  rw [wrap_id (by omega) (by omega)]
def few (f n : Int) : Bool := decide (f < 0 ∨ n < 2 * f + 1)
def middle (f : Int) (l : List Int) : Int × Bool := if few f (l.length : Int) = true then (0, false) else (mid (least f l) (most f l), true)
theorem Middle_f (k : Nat) (f : Int) (l : List Int) (hl : l.length ≤ 4096) : trim_Middle.f (k + 2) f l = some (middle f l) := by
  unfold trim_Middle.f middle few
  by_cases h0 : f < 0
  · rw [if_pos h0, trim_Middle.j0, if_pos rfl, if_pos (decide_eq_true (by omega))]
  · rw [if_neg h0]
    by_cases h1 : f ≥ (l.length : Int)
    · rw [if_pos h1, trim_Middle.j0, if_pos rfl, if_pos (decide_eq_true (by omega))]
    · rw [if_neg h1, wrap_id (x := (l.length : Int) - f) (by omega) (by omega), trim_Middle.j0]
      by_cases h2 : (l.length : Int) - f ≤ f
      · rw [if_pos (decide_eq_true h2), if_pos (decide_eq_true (by omega))]
      · rw [if_neg (by simpa using h2), if_neg (by simp; omega), Least_f f l hl, Most_f f l hl]
        simp only [Option.bind_some]
        rw [Mid_f]
        rfl
def lows (l : List S38) : List Int := l.map (·.f0)
def highs (l : List S38) : List Int := l.map (·.f1)
def fin (f : Int) (a b : List Int) : Int × Int × Bool := if most f a > least f b then (0, 0, false) else (clip (most f a), clip (least f b), true)
def fuse (f : Int) (l : List S38) : Int × Int × Bool := if few f (l.length : Int) = true then (0, 0, false) else fin f (lows l) (highs l)
theorem Of_f (k : Nat) (a b : Int) : span_Of.f (k + 1) a b = some (clip a, clip b) := by
  unfold span_Of.f
  rw [Clip_f, Clip_f]
  rfl
theorem Fuse_l0 (f : Int) (l : List S38) (hl : l.length ≤ 4096) : ∀ (d k : Nat) (i : Int) (x y : List Int), 0 ≤ i → i ≤ l.length → (l.length : Int) - i = d → x.length = i.toNat → y.length = i.toNat →
    trim_Fuse.l0 (k + 2 + d) f x y l (l.length : Int) i = some (fin f (x ++ lows (l.drop i.toNat)) (y ++ highs (l.drop i.toNat))) := by
  intro d
  induction d with
  | zero =>
    intro k i x y h0 h1 hd hx hy
    rw [drop_end l i (by omega)]
    rw [Nat.add_zero, trim_Fuse.l0, if_neg (by omega), Most_f f x (by omega), Least_f f y (by omega)]
    simp only [Option.bind_some, lows, highs, List.map_nil, List.append_nil, fin]
    by_cases g : most f x > least f y
    · rw [if_pos g, if_pos g]
    · rw [if_neg g, if_neg g, Of_f]
      rfl
  | succ d ih =>
    intro k i x y h0 h1 hd hx hy
    rw [drop_at z38 l i h0 (by omega)]
    rw [← Nat.add_assoc, trim_Fuse.l0, if_pos (by omega), if_pos h0, if_pos (by omega)]
    simp only [Option.bind_some]
    change _ = some (fin f (x ++ lows (rd_T38 l i :: _)) (y ++ highs (rd_T38 l i :: _)))
    generalize rd_T38 l i = m
    rw [if_pos (by simp; omega), if_pos (by simp; omega), wrap_id (by omega) (by omega), ih k (i + 1) (x ++ [m.f0]) (y ++ [m.f1]) (by omega) (by omega) (by omega) (by simp; omega) (by simp; omega)]
    simp [lows, highs, List.append_assoc]
theorem Fuse_f (f : Int) (l : List S38) (hl : l.length ≤ 4096) (k : Nat) (hk : l.length + 3 ≤ k) : trim_Fuse.f k f l = some (fuse f l) := by
  obtain ⟨k, rfl⟩ : ∃ m, k = m + 2 + l.length + 1 := ⟨k - (l.length + 3), by omega⟩
  unfold trim_Fuse.f fuse few
  by_cases h0 : f < 0
  · rw [if_pos h0, trim_Fuse.j0, if_pos rfl, if_pos (decide_eq_true (by omega))]
  · rw [if_neg h0]
    by_cases h1 : f ≥ (l.length : Int)
    · rw [if_pos h1, trim_Fuse.j0, if_pos rfl, if_pos (decide_eq_true (by omega))]
    · rw [if_neg h1, wrap_id (x := (l.length : Int) - f) (by omega) (by omega), trim_Fuse.j0]
      by_cases h2 : (l.length : Int) - f ≤ f
      · rw [if_pos (decide_eq_true h2), if_pos (decide_eq_true (by omega))]
      · rw [if_neg (by simpa using h2), if_neg (by simp; omega), Fuse_l0 f l hl l.length k 0 [] [] (by omega) (by omega) (by omega) rfl rfl]
        rfl
theorem alive07_f (k : Nat) (hk : 6 ≤ k) : clepsydralaw07_alive.f k = some true := by
  unfold clepsydralaw07_alive.f
  rw [Fuse_f 1 _ (by decide) k (by simpa using hk)]
  simp only [Option.bind_some]
  rw [show fuse 1 [(⟨1, 5⟩ : S38), (⟨4, 9⟩ : S38), (⟨100, 200⟩ : S38)] = (4, 9, true) by
    unfold fuse
    rw [if_neg (by decide)]
    unfold fin
    rw [show most 1 (lows [(⟨1, 5⟩ : S38), (⟨4, 9⟩ : S38), (⟨100, 200⟩ : S38)]) = 4 from most_is (by decide) (by decide) (by decide) (by decide), show least 1 (highs [(⟨1, 5⟩ : S38), (⟨4, 9⟩ : S38), (⟨100, 200⟩ : S38)]) = 9 from least_is (by decide) (by decide) (by decide) (by decide)]
    decide]
  rfl
end Go.Proofs.Ytdnddekoankmmaa.J
