/- Plain laws: what lies between, what does not hang on the order. -/
import Derived.Test.YtdnddekoankmmaaTf
namespace Go.Proofs.Ytdnddekoankmmaa.Q
open Go.RowKit Go.Proofs.YtdnddekoankmmaaW.PrintWords Go.Proofs.YtdnddekoankmmaaW.PrintLast Go.Proofs.YtdnddekoankmmaaW.PrintMore Go.Proofs.YtdnddekoankmmaaPl
open Go.Proofs.Ytdnddekoankmmaa.So (srt least has srt_length)
theorem cnt_mono {α : Type} {p q : α → Bool} {l : List α} (h : ∀ x, x ∈ l → p x = true → q x = true) : l.countP p ≤ l.countP q := List.countP_mono_left h
theorem cnt_or {α : Type} {p q r : α → Bool} {l : List α} (h : ∀ x, x ∈ l → p x = true → q x = true ∨ r x = true) : l.countP p ≤ l.countP q + l.countP r := by
  induction l with
  | nil => simp
  | cons a l ih =>
    have ih' := ih (fun x hx => h x (List.mem_cons_of_mem _ hx))
    have ha := h a List.mem_cons_self
    rw [List.countP_cons, List.countP_cons, List.countP_cons]
    by_cases g : p a = true
    · rcases ha g with g1 | g1
      · rw [if_pos g, if_pos g1]; omega
      · rw [if_pos g, if_pos g1]; omega
    · rw [if_neg g]; omega
theorem cnt_split (x : Int) (l : List Int) : l.countP (fun y => decide (y ≤ x)) + l.countP (fun y => decide (y > x)) = l.length := by
  induction l with
  | nil => rfl
  | cons a l ih =>
    rw [List.countP_cons, List.countP_cons, List.length_cons]
    by_cases g : a ≤ x
    · rw [if_pos (decide_eq_true g), if_neg (by simp; omega)]; omega
    · rw [if_neg (by simpa using g), if_pos (by simp; omega)]; omega
theorem least_ge {f : Int} {l : List Int} (h0 : 0 ≤ f) (h1 : f < (l.length : Int)) (x : Int) (h : (l.countP (fun y => decide (y < x)) : Int) ≤ f) : x ≤ least f l := by
  unfold least
  rw [if_pos ⟨h0, h1⟩]
  have := srt_lt l f.toNat (by omega) x
  omega
theorem most_le {f : Int} {l : List Int} (h0 : 0 ≤ f) (h1 : f < (l.length : Int)) (x : Int) (h : (l.countP (fun y => decide (y > x)) : Int) ≤ f) : most f l ≤ x := by
  unfold most
  rw [if_pos ⟨h0, h1⟩]
  have := srt_le l (l.length - 1 - f.toNat) (by omega) x
  have := cnt_split x l
  omega
theorem least_cnt {f : Int} {l : List Int} (h0 : 0 ≤ f) (h1 : f < (l.length : Int)) : (l.countP (fun y => decide (y < least f l)) : Int) ≤ f := by
  have h : least f l = (srt l).getD f.toNat 0 := by unfold least; rw [if_pos ⟨h0, h1⟩]
  have := (srt_is l f.toNat (by omega) (least f l)).1 h.symm
  omega
theorem most_cnt {f : Int} {l : List Int} (h0 : 0 ≤ f) (h1 : f < (l.length : Int)) : (l.countP (fun y => decide (y > most f l)) : Int) ≤ f := by
  have h : most f l = (srt l).getD (l.length - 1 - f.toNat) 0 := by unfold most; rw [if_pos ⟨h0, h1⟩]
  have := (srt_is l (l.length - 1 - f.toNat) (by omega) (most f l)).1 h.symm
  have := cnt_split (most f l) l
  omega
theorem least_le_most {f : Int} {l : List Int} (h0 : 0 ≤ f) (h1 : 2 * f + 1 ≤ (l.length : Int)) : least f l ≤ most f l := by
  have hm := most_cnt h0 (show f < (l.length : Int) by omega)
  have hs := cnt_split (most f l) l
  unfold least
  rw [if_pos ⟨h0, by omega⟩]
  exact (srt_le l f.toNat (by omega) (most f l)).2 (by omega)
theorem few_false {f n : Int} (h : ¬ few f n = true) : 0 ≤ f ∧ 2 * f + 1 ≤ n := by
  unfold few at h
  simp only [decide_eq_true_eq] at h
  omega
theorem middle_between (f : Int) (l : List Int) (lo hi : Int) (hf : ¬ few f (l.length : Int) = true) (hw : (l.countP (fun y => decide (y < lo ∨ y > hi)) : Int) ≤ f) (hlo : -2305843009213693952 ≤ lo) (hhi : hi ≤ 2305843009213693952) :
    (middle f l).2 = true ∧ lo ≤ (middle f l).1 ∧ (middle f l).1 ≤ hi := by
  obtain ⟨h0, h1⟩ := few_false hf
  have e : middle f l = (mid (least f l) (most f l), true) := by unfold middle; rw [if_neg hf]
  rw [e]
  have a := least_ge (f := f) (l := l) h0 (by omega) lo (by
    have := cnt_mono (l := l) (p := fun y => decide (y < lo)) (q := fun y => decide (y < lo ∨ y > hi)) (fun x _ h => by simp only [decide_eq_true_eq] at *; omega)
    omega)
  have b := most_le (f := f) (l := l) h0 (by omega) hi (by
    have := cnt_mono (l := l) (p := fun y => decide (y > hi)) (q := fun y => decide (y < lo ∨ y > hi)) (fun x _ h => by simp only [decide_eq_true_eq] at *; omega)
    omega)
  have c := least_le_most h0 h1
  refine ⟨rfl, ?_, ?_⟩
  · show lo ≤ mid _ _
    unfold mid
    rw [clip_id (by omega) (by omega), clip_id (by omega) (by omega)]
    omega
  · show mid _ _ ≤ hi
    unfold mid
    rw [clip_id (by omega) (by omega), clip_id (by omega) (by omega)]
    omega
theorem least_perm {f : Int} {l l' : List Int} (h : l'.Perm l) : least f l' = least f l := by
  unfold least
  rw [h.length_eq]
  by_cases g : 0 ≤ f ∧ f < (l.length : Int)
  · rw [if_pos g, if_pos g]
    refine (srt_is l' f.toNat (by rw [h.length_eq]; omega) _).2 ?_
    rw [h.countP_eq, h.countP_eq]
    exact (srt_is l f.toNat (by omega) _).1 rfl
  · rw [if_neg g, if_neg g]
theorem most_perm {f : Int} {l l' : List Int} (h : l'.Perm l) : most f l' = most f l := by
  unfold most
  rw [h.length_eq]
  by_cases g : 0 ≤ f ∧ f < (l.length : Int)
  · rw [if_pos g, if_pos g]
    refine (srt_is l' _ (by rw [h.length_eq]; omega) _).2 ?_
    rw [h.countP_eq, h.countP_eq]
    exact (srt_is l _ (by omega) _).1 rfl
  · rw [if_neg g, if_neg g]
theorem middle_perm {f : Int} {l l' : List Int} (h : l'.Perm l) : middle f l' = middle f l := by
  unfold middle
  rw [h.length_eq, least_perm h, most_perm h]
theorem fuse_perm {f : Int} {l l' : List S38} (h : l'.Perm l) : fuse f l' = fuse f l := by
  unfold fuse fin
  have e1 : most f (lows l') = most f (lows l) := most_perm (h.map _)
  have e2 : least f (highs l') = least f (highs l) := least_perm (h.map _)
  rw [h.length_eq, e1, e2]
theorem has_perm {f : Int} {l l' : List Int} (h : l'.Perm l) : has f l' = has f l := by
  unfold has
  rw [h.length_eq]
end Go.Proofs.Ytdnddekoankmmaa.Q
