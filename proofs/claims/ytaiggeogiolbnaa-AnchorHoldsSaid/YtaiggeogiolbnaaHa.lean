/- Plain laws for the anchor's numbers. -/
import Derived.Test.YtaiggeogiolbnaaHg
import Derived.Test.YtaiggeogiolbnaaH11
import Derived.Test.YtaiggeogiolbnaaPl
namespace Go.Proofs.Ytaiggeogiolbnaa.H
open Go.RowKit Go.Proofs.YtaiggeogiolbnaaW.PrintWords Go.Proofs.YtaiggeogiolbnaaW.PrintLast Go.Proofs.YtaiggeogiolbnaaW.PrintMore Go.Proofs.YtaiggeogiolbnaaPl
open Go.Proofs.Ytaiggeogiolbnaa.So (srt least has srt_length)
theorem srt_perm (l : List Int) : (srt l).Perm l := List.mergeSort_perm _ _
theorem srt_sorted (l : List Int) : (srt l).Pairwise (· ≤ ·) := by
  have h := List.pairwise_mergeSort (le := fun x y : Int => decide (x ≤ y)) (fun a b c h g => by simp only [decide_eq_true_eq] at *; omega) (fun a b => by
    rcases Int.le_total a b with h | h
    · simp [h]
    · simp [h]) l
  exact h.imp (fun h => by simpa using h)
theorem cnt_iff (p : Int → Bool) (hp : ∀ a b, a ≤ b → p b = true → p a = true) : ∀ (s : List Int), s.Pairwise (· ≤ ·) → ∀ k, k < s.length → (p (s.getD k 0) = true ↔ k < s.countP p) := by
  intro s
  induction s with
  | nil => intro _ k hk; simp at hk
  | cons a t ih =>
    intro hs k hk
    obtain ⟨h1, h2⟩ := List.pairwise_cons.1 hs
    by_cases ha : p a = true
    · rw [List.countP_cons_of_pos ha]
      cases k with
      | zero => simp [ha]
      | succ k =>
        have := ih h2 k (by simpa using hk)
        rw [List.getD_cons_succ, this]
        omega
    · rw [List.countP_cons_of_neg ha]
      have hz : t.countP p = 0 := List.countP_eq_zero.2 (fun b hb hpb => ha (hp a b (h1 b hb) hpb))
      rw [hz]
      constructor
      · intro h
        cases k with
        | zero => exact absurd h ha
        | succ k =>
          rw [List.getD_cons_succ] at h
          have hk' : k < t.length := by simpa using hk
          have hm : t.getD k 0 ∈ t := by
            rw [List.getD_eq_getElem?_getD, List.getElem?_eq_getElem hk']
            exact List.getElem_mem _
          exact absurd (hp a _ (h1 _ hm) h) ha
      · intro h; omega
theorem srt_lt (l : List Int) (k : Nat) (hk : k < l.length) (x : Int) : (srt l).getD k 0 < x ↔ k < l.countP (fun y => decide (y < x)) := by
  have h := cnt_iff (fun y => decide (y < x)) (fun a b h g => by simp only [decide_eq_true_eq] at *; omega) (srt l) (srt_sorted l) k (by rw [srt_length]; exact hk)
  rw [(srt_perm l).countP_eq] at h
  simpa using h
theorem srt_le (l : List Int) (k : Nat) (hk : k < l.length) (x : Int) : (srt l).getD k 0 ≤ x ↔ k < l.countP (fun y => decide (y ≤ x)) := by
  have h := cnt_iff (fun y => decide (y ≤ x)) (fun a b h g => by simp only [decide_eq_true_eq] at *; omega) (srt l) (srt_sorted l) k (by rw [srt_length]; exact hk)
  rw [(srt_perm l).countP_eq] at h
  simpa using h
theorem srt_mem (l : List Int) (k : Nat) (hk : k < l.length) : (srt l).getD k 0 ∈ l := by
  rw [← (srt_perm l).mem_iff, List.getD_eq_getElem?_getD, List.getElem?_eq_getElem (by rw [srt_length]; exact hk)]
  exact List.getElem_mem _
/-- What the document counts tells the k-th least. -/
theorem srt_is (l : List Int) (k : Nat) (hk : k < l.length) (x : Int) : (srt l).getD k 0 = x ↔ l.countP (fun y => decide (y < x)) ≤ k ∧ k < l.countP (fun y => decide (y ≤ x)) := by
  have h1 := srt_lt l k hk x
  have h2 := srt_le l k hk x
  omega
theorem Bound_f (k : Nat) (x a b : Int) (h : a ≤ b) : sat_Bound.f (k + 1) x a b = some (if x < a then a else if x > b then b else x) := by
  unfold sat_Bound.f
  by_cases h1 : x < a
  · rw [if_pos h1, if_pos h1, sat_Bound.j0, if_pos rfl]
  · rw [if_neg h1, if_neg h1, sat_Bound.j0, if_neg (by simpa using h)]
    by_cases h2 : x > b
    · rw [if_pos h2, if_pos h2]
    · rw [if_neg h2, if_neg h2]
theorem Clip_f (k : Nat) (x : Int) : sat_Clip.f (k + 1) x = some (clip x) := by
  unfold sat_Clip.f
  rw [Bound_f k x _ _ (by omega)]
  rfl
theorem Least_f (a0 : Int) (l : List Int) (hl : l.length ≤ 4096) : trim_Least.f a0 l = some (least a0 l, has a0 l) := by
  unfold trim_Least.f
  rw [if_pos (by omega)]
theorem least_is {a0 : Int} {l : List Int} {x : Int} (h0 : 0 ≤ a0) (h1 : a0 < (l.length : Int)) (h2 : l.countP (fun y => decide (y < x)) ≤ a0.toNat) (h3 : a0.toNat < l.countP (fun y => decide (y ≤ x))) : least a0 l = x := by
  unfold least
  rw [if_pos ⟨h0, h1⟩]
  exact (srt_is l a0.toNat (by omega) x).2 ⟨h2, h3⟩
theorem cnt_mono {α : Type} {p q : α → Bool} {l : List α} (h : ∀ x, x ∈ l → p x = true → q x = true) : l.countP p ≤ l.countP q := List.countP_mono_left h
theorem cnt_or {α : Type} {p q r : α → Bool} {l : List α} (h : ∀ x, x ∈ l → p x = true → q x = true ∨ r x = true) : l.countP p ≤ l.countP q + l.countP r := by
  induction l with
  | nil => simp
  | cons a l ih =>
    have ih' := ih (fun x hx => h x (List.mem_cons_of_mem _ hx))
    have ha := h a List.mem_cons_self
    rw [List.countP_cons, List.countP_cons, List.countP_cons]
    by_cases g : p a = true
    · rcases ha g with g1 | g1
      · rw [if_pos g, if_pos g1]; omega
      · rw [if_pos g, if_pos g1]; omega
    · rw [if_neg g]; omega
theorem cnt_split (x : Int) (l : List Int) : l.countP (fun y => decide (y ≤ x)) + l.countP (fun y => decide (y > x)) = l.length := by
  induction l with
  | nil => rfl
  | cons a l ih =>
    rw [List.countP_cons, List.countP_cons, List.length_cons]
    by_cases g : a ≤ x
    · rw [if_pos (decide_eq_true g), if_neg (by simp; omega)]; omega
    · rw [if_neg (by simpa using g), if_pos (by simp; omega)]; omega
theorem least_ge {f : Int} {l : List Int} (h0 : 0 ≤ f) (h1 : f < (l.length : Int)) (x : Int) (h : (l.countP (fun y => decide (y < x)) : Int) ≤ f) : x ≤ least f l := by
  unfold least
  rw [if_pos ⟨h0, h1⟩]
  have := srt_lt l f.toNat (by omega) x
  omega
theorem least_le {f : Int} {l : List Int} (h0 : 0 ≤ f) (h1 : 2 * f + 1 ≤ (l.length : Int)) (x : Int) (h : (l.countP (fun y => decide (y > x)) : Int) ≤ f) : least f l ≤ x := by
  unfold least
  rw [if_pos ⟨h0, by omega⟩]
  have := srt_le l f.toNat (by omega) x
  have := cnt_split x l
  omega
theorem bind_true {α : Type} (F : Bool → Option α) : (some true).bind F = F true := rfl
theorem Add2_f (k : Nat) (a b : Int) : sat_Add.f (k + 4) [a, b] = some (clip (clip a + clip b)) := by
  have h1 := clip_bd a
  have h2 := clip_bd b
  unfold sat_Add.f
  rw [sat_Add.l0, if_pos (by simp), if_pos (by decide), if_pos (by simp), show rd [a, b] 0 = a from rfl, Clip_f (k + 2)]
  simp only [Option.bind_some]
  rw [wrap_id (x := 0 + clip a) (by omega) (by omega), Int.zero_add, Clip_f (k + 2)]
  simp only [Option.bind_some]
  rw [clip_clip, show wrap64 (0 + 1) = 1 from wrap_id (by decide) (by decide), sat_Add.l0, if_pos (by simp), if_pos (by decide), if_pos (by simp), show rd [a, b] 1 = b from rfl, Clip_f (k + 1)]
  simp only [Option.bind_some]
  rw [wrap_id (x := clip a + clip b) (by omega) (by omega), Clip_f (k + 1)]
  simp only [Option.bind_some]
  rw [show wrap64 (1 + 1) = 2 from wrap_id (by decide) (by decide), sat_Add.l0, if_neg (by simp)]
theorem More_f (k : Nat) (n : Int) (h0 : 0 ≤ n) (h1 : n ≤ 1073741823) : anchor_More.f (k + 4) n = some (n + 1) := by
  unfold anchor_More.f
  rw [Add2_f, clip_id (x := n) (by omega) (by omega), clip_id (x := 1) (by omega) (by omega), clip_id (by omega) (by omega)]
  simp only [Option.bind_some]
  rw [Bound_f (k + 3) _ _ _ (by omega), if_neg (by omega), if_neg (by omega)]
  rfl
theorem Held_f (k : Nat) (b0 F b2 b3 b4 b5 b6 b7 b8 b9 b10 b11 : Int) (l : List Int) (hl : l.length ≤ 4096) (h : has F l = true) (h0 : 0 ≤ least F l) (h1 : least F l ≤ 1073741823) :
    anchor_Held.f (k + 4) b0 F b2 b3 b4 b5 b6 b7 b8 b9 b10 b11 l = some (least F l + 1, true) := by
  unfold anchor_Held.f
  rw [Least_f F l hl]
  simp only [Option.bind_some]
  rw [if_pos h, More_f k _ h0 h1]
  rfl
theorem alive16_f (k : Nat) (hk : 20 ≤ k) : clepsydralaw16_alive.f k = some true := by
  have e1 : anchor_Seen.f k 0 0 0 0 0 0 0 50 0 0 0 0 1000 = some (950, 1050, true) :=
    at_rounds (g := fun k => anchor_Seen.f k 0 0 0 0 0 0 0 50 0 0 0 0 1000) (fun k => anchor_Seen.mono _ _ _ _ _ _ _ _ _ _ _ _ _ k) hk (show anchor_Seen.f 20 0 0 0 0 0 0 0 50 0 0 0 0 1000 = some (950, 1050, true) by decide +kernel)
  obtain ⟨k, rfl⟩ : ∃ m, k = m + 4 := ⟨k - 4, by omega⟩
  have e3 : least 1 [7, 3, 9] = 7 := least_is (by decide) (by decide) (by decide) (by decide)
  have e2 := Held_f k 0 1 0 0 0 0 0 0 0 0 0 0 [7, 3, 9] (by decide) (by decide +kernel) (by rw [e3]; decide) (by rw [e3]; decide)
  rw [e3] at e2
  unfold clepsydralaw16_alive.f
  rw [e1, e2]
  rfl
end Go.Proofs.Ytaiggeogiolbnaa.H
