/- Plain laws on what spans are fused to. -/
import Derived.Test.YtdnddekoankmmaaTp
import Derived.Test.YtdnddekoankmmaaQ12
import Derived.Test.YtdnddekoankmmaaQ13
namespace Go.Proofs.Ytdnddekoankmmaa.Q
open Go.RowKit Go.Proofs.YtdnddekoankmmaaW.PrintWords Go.Proofs.YtdnddekoankmmaaW.PrintLast Go.Proofs.YtdnddekoankmmaaW.PrintMore Go.Proofs.YtdnddekoankmmaaPl
open Go.Proofs.Ytdnddekoankmmaa.So (srt least has srt_length)
def lows (l : List S38) : List Int := l.map (·.f0)
def highs (l : List S38) : List Int := l.map (·.f1)
def fin (f : Int) (a b : List Int) : Int × Int × Bool := if most f a > least f b then (0, 0, false) else (clip (most f a), clip (least f b), true)
def fuse (f : Int) (l : List S38) : Int × Int × Bool := if few f (l.length : Int) = true then (0, 0, false) else fin f (lows l) (highs l)
theorem Of_f (k : Nat) (a b : Int) : span_Of.f (k + 1) a b = some (clip a, clip b) := by
  unfold span_Of.f
  rw [Clip_f, Clip_f]
  rfl
theorem refOf_f (a b : Int) : clepsydraref03_Of.f a b = some (clip a, clip b) := by
  unfold clepsydraref03_Of.f
  rw [refClip_f, refClip_f]
  rfl
theorem Fuse_l0 (f : Int) (l : List S38) (hl : l.length ≤ 4096) : ∀ (d k : Nat) (i : Int) (x y : List Int), 0 ≤ i → i ≤ l.length → (l.length : Int) - i = d → x.length = i.toNat → y.length = i.toNat →
    trim_Fuse.l0 (k + 2 + d) f x y l (l.length : Int) i = some (fin f (x ++ lows (l.drop i.toNat)) (y ++ highs (l.drop i.toNat))) := by
  intro d
  induction d with
  | zero =>
    intro k i x y h0 h1 hd hx hy
    rw [drop_end l i (by omega)]
    rw [Nat.add_zero, trim_Fuse.l0, if_neg (by omega), Most_f f x (by omega), Least_f f y (by omega)]
    simp only [Option.bind_some, lows, highs, List.map_nil, List.append_nil, fin]
    by_cases g : most f x > least f y
    · rw [if_pos g, if_pos g]
    · rw [if_neg g, if_neg g, Of_f]
      rfl
  | succ d ih =>
    intro k i x y h0 h1 hd hx hy
    rw [drop_at z38 l i h0 (by omega)]
    rw [← Nat.add_assoc, trim_Fuse.l0, if_pos (by omega), if_pos h0, if_pos (by omega)]
    simp only [Option.bind_some]
    change _ = some (fin f (x ++ lows (rd_T38 l i :: _)) (y ++ highs (rd_T38 l i :: _)))
    generalize rd_T38 l i = m
    rw [if_pos (by simp; omega), if_pos (by simp; omega), wrap_id (by omega) (by omega), ih k (i + 1) (x ++ [m.f0]) (y ++ [m.f1]) (by omega) (by omega) (by omega) (by simp; omega) (by simp; omega)]
    simp [lows, highs, List.append_assoc]
theorem Fuse_f (f : Int) (l : List S38) (hl : l.length ≤ 4096) (k : Nat) (hk : l.length + 3 ≤ k) : trim_Fuse.f k f l = some (fuse f l) := by
  obtain ⟨k, rfl⟩ : ∃ m, k = m + 2 + l.length + 1 := ⟨k - (l.length + 3), by omega⟩
  unfold trim_Fuse.f fuse few
  by_cases h0 : f < 0
  · rw [if_pos h0, trim_Fuse.j0, if_pos rfl, if_pos (decide_eq_true (by omega))]
  · rw [if_neg h0]
    by_cases h1 : f ≥ (l.length : Int)
    · rw [if_pos h1, trim_Fuse.j0, if_pos rfl, if_pos (decide_eq_true (by omega))]
    · rw [if_neg h1, wrap_id (x := (l.length : Int) - f) (by omega) (by omega), trim_Fuse.j0]
      by_cases h2 : (l.length : Int) - f ≤ f
      · rw [if_pos (decide_eq_true h2), if_pos (decide_eq_true (by omega))]
      · rw [if_neg (by simpa using h2), if_neg (by simp; omega), Fuse_l0 f l hl l.length k 0 [] [] (by omega) (by omega) (by omega) rfl rfl]
        rfl
theorem refFuse_l0 (f : Int) (l : List S38) (hl : l.length ≤ 256) (m : Nat) (hm : 70000 ≤ m) : ∀ (d : Nat) (i : Int) (x y : List Int), 0 ≤ i → i ≤ l.length → (l.length : Int) - i = d → x.length = i.toNat → y.length = i.toNat →
    clepsydraref07_Fuse.l0 (m + 1 + d) f x y l (l.length : Int) i = some (fin f (x ++ lows (l.drop i.toNat)) (y ++ highs (l.drop i.toNat))) := by
  have hb : ∀ x : List Int, x.length ≤ 256 → x.length * (x.length + 2) ≤ 256 * 258 := fun x hx => Nat.mul_le_mul hx (by omega)
  intro d
  induction d with
  | zero =>
    intro i x y h0 h1 hd hx hy
    have b1 := hb x (by omega)
    have b2 := hb y (by omega)
    rw [drop_end l i (by omega)]
    rw [Nat.add_zero, clepsydraref07_Fuse.l0, if_neg (by omega), refMost_f f x (by omega) _ (by omega), refLeast_f f y (by omega) _ (by omega)]
    simp only [Option.bind_some, lows, highs, List.map_nil, List.append_nil, fin]
    by_cases g : most f x > least f y
    · rw [if_pos g, if_pos g]
    · rw [if_neg g, if_neg g, refOf_f]
      rfl
  | succ d ih =>
    intro i x y h0 h1 hd hx hy
    rw [drop_at z38 l i h0 (by omega)]
    rw [← Nat.add_assoc, clepsydraref07_Fuse.l0, if_pos (by omega), if_pos h0, if_pos (by omega)]
    change _ = some (fin f (x ++ lows (rd_T38 l i :: _)) (y ++ highs (rd_T38 l i :: _)))
    generalize rd_T38 l i = n
    rw [if_pos (by omega), if_pos (by omega), wrap_id (by omega) (by omega), ih (i + 1) (x ++ [n.f0]) (y ++ [n.f1]) (by omega) (by omega) (by omega) (by simp; omega) (by simp; omega)]
    simp [lows, highs, List.append_assoc]
theorem refFuse_f (f : Int) (l : List S38) (hl : l.length ≤ 256) (k : Nat) (hk : 70001 + l.length ≤ k) : clepsydraref07_Fuse.f k f l = some (fuse f l) := by
  obtain ⟨k, rfl⟩ : ∃ m, k = m + 1 + l.length := ⟨k - (l.length + 1), by omega⟩
  unfold clepsydraref07_Fuse.f fuse
  rw [Few_f f _ (by omega) (by omega)]
  simp only [Option.bind_some]
  by_cases h : few f (l.length : Int) = true
  · rw [if_pos h, if_pos h]
  · rw [if_neg h, if_neg h, refFuse_l0 f l hl k (by omega) l.length 0 [] [] (by omega) (by omega) (by omega) rfl rfl]
    rfl
theorem alive07_f (k : Nat) (hk : 6 ≤ k) : clepsydralaw07_alive.f k = some true := by
  unfold clepsydralaw07_alive.f
  rw [Fuse_f 1 _ (by decide) k (by simpa using hk)]
  simp only [Option.bind_some]
  rw [show fuse 1 [(⟨1, 5⟩ : S38), (⟨4, 9⟩ : S38), (⟨100, 200⟩ : S38)] = (4, 9, true) by
    unfold fuse
    rw [if_neg (by decide)]
    unfold fin
    rw [show most 1 (lows [(⟨1, 5⟩ : S38), (⟨4, 9⟩ : S38), (⟨100, 200⟩ : S38)]) = 4 from most_is (by decide) (by decide) (by decide) (by decide), show least 1 (highs [(⟨1, 5⟩ : S38), (⟨4, 9⟩ : S38), (⟨100, 200⟩ : S38)]) = 9 from least_is (by decide) (by decide) (by decide) (by decide)]
    decide]
  rfl
end Go.Proofs.Ytdnddekoankmmaa.Q
