/- Plain laws on what spans are fused to, for the anchor. -/
import Derived.Test.YtaiggeogiolbnaaHa
import Derived.Test.YtaiggeogiolbnaaH12
namespace Go.Proofs.Ytaiggeogiolbnaa.H
open Go.RowKit Go.Proofs.YtaiggeogiolbnaaW.PrintWords Go.Proofs.YtaiggeogiolbnaaW.PrintLast Go.Proofs.YtaiggeogiolbnaaW.PrintMore Go.Proofs.YtaiggeogiolbnaaPl
open Go.Proofs.Ytaiggeogiolbnaa.So (srt least has srt_length)
/-- The k-th greatest. -/
def most (a0 : Int) (l : List Int) : Int := if 0 ≤ a0 ∧ a0 < (l.length : Int) then (srt l).getD (l.length - 1 - a0.toNat) 0 else 0
theorem least_most {a0 : Int} {l : List Int} (h0 : 0 ≤ a0) (h1 : a0 < (l.length : Int)) : least ((l.length : Int) - 1 - a0) l = most a0 l ∧ has ((l.length : Int) - 1 - a0) l = true := by
  unfold least most has
  rw [if_pos (by omega), if_pos (by omega), show ((l.length : Int) - 1 - a0).toNat = l.length - 1 - a0.toNat by omega]
  exact ⟨rfl, decide_eq_true (by omega)⟩
theorem most_is {a0 : Int} {l : List Int} {x : Int} (h0 : 0 ≤ a0) (h1 : a0 < (l.length : Int)) (h2 : l.countP (fun y => decide (y < x)) ≤ l.length - 1 - a0.toNat) (h3 : l.length - 1 - a0.toNat < l.countP (fun y => decide (y ≤ x))) : most a0 l = x := by
  unfold most
  rw [if_pos ⟨h0, h1⟩]
  exact (srt_is l (l.length - 1 - a0.toNat) (by omega) x).2 ⟨h2, h3⟩
theorem Most_f (a0 : Int) (l : List Int) (hl : l.length ≤ 4096) : trim_Most.f a0 l = some (most a0 l, has a0 l) := by
  unfold trim_Most.f
  by_cases h0 : a0 < 0
  · rw [if_pos h0]; unfold most has; rw [if_neg (by omega), decide_eq_false (by omega)]
  · rw [if_neg h0]
    by_cases h1 : a0 ≥ (l.length : Int)
    · rw [if_pos h1]; unfold most has; rw [if_neg (by omega), decide_eq_false (by omega)]
    · rw [if_neg h1, wrap_id (x := (l.length : Int) - 1) (by omega) (by omega), wrap_id (by omega) (by omega), Least_f _ l hl]
      obtain ⟨e1, e2⟩ := least_most (a0 := a0) (l := l) (by omega) (by omega)
      rw [e1, e2]
      unfold has
      rw [decide_eq_true (by omega)]
      rfl
/-- Are there too few of which f may be wrong? -/
def few (f n : Int) : Bool := decide (f < 0 ∨ n < 2 * f + 1)
def lows (l : List S33) : List Int := l.map (·.f0)
def highs (l : List S33) : List Int := l.map (·.f1)
def fin (f : Int) (a b : List Int) : Int × Int × Bool := if most f a > least f b then (0, 0, false) else (clip (most f a), clip (least f b), true)
def fuse (f : Int) (l : List S33) : Int × Int × Bool := if few f (l.length : Int) = true then (0, 0, false) else fin f (lows l) (highs l)
theorem Of_f (k : Nat) (a b : Int) : span_Of.f (k + 1) a b = some (clip a, clip b) := by
  unfold span_Of.f
  rw [Clip_f, Clip_f]
  rfl
theorem Fuse_l0 (f : Int) (l : List S33) (hl : l.length ≤ 4096) : ∀ (d k : Nat) (i : Int) (x y : List Int), 0 ≤ i → i ≤ l.length → (l.length : Int) - i = d → x.length = i.toNat → y.length = i.toNat →
    trim_Fuse.l0 (k + 2 + d) f x y l (l.length : Int) i = some (fin f (x ++ lows (l.drop i.toNat)) (y ++ highs (l.drop i.toNat))) := by
  intro d
  induction d with
  | zero =>
    intro k i x y h0 h1 hd hx hy
    rw [drop_end l i (by omega)]
    rw [Nat.add_zero, trim_Fuse.l0, if_neg (by omega), Most_f f x (by omega), Least_f f y (by omega)]
    simp only [Option.bind_some, lows, highs, List.map_nil, List.append_nil, fin]
    by_cases g : most f x > least f y
    · rw [if_pos g, if_pos g]
    · rw [if_neg g, if_neg g, Of_f]
      rfl
  | succ d ih =>
    intro k i x y h0 h1 hd hx hy
    rw [drop_at z33 l i h0 (by omega)]
    rw [← Nat.add_assoc, trim_Fuse.l0, if_pos (by omega), if_pos h0, if_pos (by omega)]
    simp only [Option.bind_some]
    change _ = some (fin f (x ++ lows (rd_T33 l i :: _)) (y ++ highs (rd_T33 l i :: _)))
    generalize rd_T33 l i = m
    rw [if_pos (by simp; omega), if_pos (by simp; omega), wrap_id (by omega) (by omega), ih k (i + 1) (x ++ [m.f0]) (y ++ [m.f1]) (by omega) (by omega) (by omega) (by simp; omega) (by simp; omega)]
    simp [lows, highs, List.append_assoc]
theorem Fuse_f (f : Int) (l : List S33) (hl : l.length ≤ 4096) (k : Nat) (hk : l.length + 3 ≤ k) : trim_Fuse.f k f l = some (fuse f l) := by
  obtain ⟨k, rfl⟩ : ∃ m, k = m + 2 + l.length + 1 := ⟨k - (l.length + 3), by omega⟩
  unfold trim_Fuse.f fuse few
  by_cases h0 : f < 0
  · rw [if_pos h0, trim_Fuse.j0, if_pos rfl, if_pos (decide_eq_true (by omega))]
  · rw [if_neg h0]
    by_cases h1 : f ≥ (l.length : Int)
    · rw [if_pos h1, trim_Fuse.j0, if_pos rfl, if_pos (decide_eq_true (by omega))]
    · rw [if_neg h1, wrap_id (x := (l.length : Int) - f) (by omega) (by omega), trim_Fuse.j0]
      by_cases h2 : (l.length : Int) - f ≤ f
      · rw [if_pos (decide_eq_true h2), if_pos (decide_eq_true (by omega))]
      · rw [if_neg (by simpa using h2), if_neg (by simp; omega), Fuse_l0 f l hl l.length k 0 [] [] (by omega) (by omega) (by omega) rfl rfl]
        rfl
theorem most_le {f : Int} {l : List Int} (h0 : 0 ≤ f) (h1 : f < (l.length : Int)) (x : Int) (h : (l.countP (fun y => decide (y > x)) : Int) ≤ f) : most f l ≤ x := by
  unfold most
  rw [if_pos ⟨h0, h1⟩]
  have := srt_le l (l.length - 1 - f.toNat) (by omega) x
  have := cnt_split x l
  omega
theorem most_cnt {f : Int} {l : List Int} (h0 : 0 ≤ f) (h1 : f < (l.length : Int)) : (l.countP (fun y => decide (y > most f l)) : Int) ≤ f := by
  have h : most f l = (srt l).getD (l.length - 1 - f.toNat) 0 := by unfold most; rw [if_pos ⟨h0, h1⟩]
  have := (srt_is l (l.length - 1 - f.toNat) (by omega) (most f l)).1 h.symm
  have := cnt_split (most f l) l
  omega
theorem few_false {f n : Int} (h : ¬ few f n = true) : 0 ≤ f ∧ 2 * f + 1 ≤ n := by
  unfold few at h
  simp only [decide_eq_true_eq] at h
  omega
theorem AFuse_f (b0 F b2 b3 b4 b5 b6 b7 b8 b9 b10 b11 : Int) (l : List S33) (hl : l.length ≤ 4096) (k : Nat) (hk : l.length + 3 ≤ k) : anchor_Fuse.f k b0 F b2 b3 b4 b5 b6 b7 b8 b9 b10 b11 l = some (fuse F l) := by
  unfold anchor_Fuse.f
  rw [Fuse_f F l hl k hk]
  rfl
end Go.Proofs.Ytaiggeogiolbnaa.H
