/- Plain laws on the document's answers, for the anchor. -/
import Derived.Test.YtaiggeogiolbnaaRf
import Derived.Test.YtaiggeogiolbnaaRv
import Derived.Test.YtaiggeogiolbnaaR13
import Derived.Test.YtaiggeogiolbnaaR14
namespace Go.Proofs.Ytaiggeogiolbnaa.R
open Go.RowKit Go.Proofs.YtaiggeogiolbnaaW.PrintWords Go.Proofs.YtaiggeogiolbnaaW.PrintLast Go.Proofs.YtaiggeogiolbnaaW.PrintMore Go.Proofs.YtaiggeogiolbnaaPl
open Go.Proofs.Ytaiggeogiolbnaa.So (srt least has srt_length)
theorem refLeast_l1 (a0 : Int) (l : List Int) (x : Int) (n i : Int) (hl : l.length ≤ 4096) : ∀ (d m : Nat) (b u j : Int), 0 ≤ j → j ≤ l.length → (l.length : Int) - j = d → 0 ≤ b → b ≤ j → 0 ≤ u → u ≤ j →
    b + (l.drop j.toNat).countP (fun y => decide (y < x)) = l.countP (fun y => decide (y < x)) → u + (l.drop j.toNat).countP (fun y => decide (y ≤ x)) = l.countP (fun y => decide (y ≤ x)) →
    clepsydraref07_Least.l1 (m + 1 + d) a0 l x b u l n i l (l.length : Int) j = if (l.countP (fun y => decide (y < x)) : Int) ≤ a0 then (if a0 < (l.countP (fun y => decide (y ≤ x)) : Int) then some (x, true) else clepsydraref07_Least.l0 m a0 l l n (wrap64 (i + 1))) else clepsydraref07_Least.l0 m a0 l l n (wrap64 (i + 1)) := by
  intro d
  induction d with
  | zero =>
    intro m b u j h0 h1 hd _ _ _ _ hb hu
    rw [drop_end l j (by omega)] at hb hu
    simp only [List.countP_nil, Int.natCast_zero, Int.add_zero] at hb hu
    rw [Nat.add_zero, clepsydraref07_Least.l1, if_neg (by omega), hb, hu]
  | succ d ih =>
    intro m b u j h0 h1 hd b0 b1 u0 u1 hb hu
    rw [drop_at 0 l j h0 (by omega), List.countP_cons] at hb hu
    rw [← Nat.add_assoc, clepsydraref07_Least.l1, if_pos (by omega), if_pos h0, if_pos (by omega)]
    change _ + ((List.countP _ _ + (if decide (rd l j < x) = true then 1 else 0) : Nat) : Int) = _ at hb
    change _ + ((List.countP _ _ + (if decide (rd l j ≤ x) = true then 1 else 0) : Nat) : Int) = _ at hu
    generalize rd l j = y at *
    rw [wrap_id (x := j + 1) (by omega) (by omega), wrap_id (x := b + 1) (by omega) (by omega), wrap_id (x := u + 1) (by omega) (by omega)]
    by_cases g1 : y < x
    · rw [if_pos g1, if_pos (show y ≤ x by omega)]
      rw [if_pos (decide_eq_true g1)] at hb
      rw [if_pos (decide_eq_true (show y ≤ x by omega))] at hu
      exact ih m (b + 1) (u + 1) (j + 1) (by omega) (by omega) (by omega) (by omega) (by omega) (by omega) (by omega) (by omega) (by omega)
    · rw [if_neg g1]
      rw [if_neg (by simpa using g1)] at hb
      by_cases g2 : y ≤ x
      · rw [if_pos g2]
        rw [if_pos (decide_eq_true g2)] at hu
        exact ih m b (u + 1) (j + 1) (by omega) (by omega) (by omega) (by omega) (by omega) (by omega) (by omega) (by omega) (by omega)
      · rw [if_neg g2]
        rw [if_neg (by simpa using g2)] at hu
        exact ih m b u (j + 1) (by omega) (by omega) (by omega) (by omega) (by omega) (by omega) (by omega) (by omega) (by omega)
theorem refLeast_l0 (a0 : Int) (l : List Int) (hl : l.length ≤ 4096) (ha : 0 ≤ a0) (ha2 : a0 < (l.length : Int)) : ∀ (d m : Nat) (i : Int), 0 ≤ i → i ≤ l.length → (l.length : Int) - i = d → (srt l).getD a0.toNat 0 ∈ l.drop i.toNat →
    clepsydraref07_Least.l0 (m + 1 + d * (l.length + 2)) a0 l l (l.length : Int) i = some ((srt l).getD a0.toNat 0, true) := by
  intro d
  induction d with
  | zero =>
    intro m i h0 h1 hd hm
    rw [drop_end l i (by omega)] at hm
    simp at hm
  | succ d ih =>
    intro m i h0 h1 hd hm
    rw [show m + 1 + (d + 1) * (l.length + 2) = ((m + 1 + d * (l.length + 2)) + 1 + l.length) + 1 by rw [Nat.add_mul]; omega]
    rw [clepsydraref07_Least.l0, if_pos (by omega), if_pos h0, if_pos (by omega)]
    rw [drop_at 0 l i h0 (by omega)] at hm
    change _ ∈ rd l i :: _ at hm
    generalize rd l i = x at *
    rw [refLeast_l1 a0 l x (l.length : Int) i hl l.length (m + 1 + d * (l.length + 2)) 0 0 0 (by omega) (by omega) (by omega) (by omega) (by omega) (by omega) (by omega) (by simp) (by simp)]
    have hs := srt_is l a0.toNat (by omega) x
    by_cases g : (srt l).getD a0.toNat 0 = x
    · obtain ⟨g1, g2⟩ := hs.1 g
      rw [if_pos (by omega), if_pos (by omega), g]
    · have hm' : (srt l).getD a0.toNat 0 ∈ l.drop (i + 1).toNat := by
        rcases List.mem_cons.1 hm with h | h
        · exact absurd h g
        · exact h
      have e := ih m (i + 1) (by omega) (by omega) (by omega) hm'
      rw [wrap_id (x := i + 1) (by omega) (by omega), e]
      by_cases g1 : (l.countP (fun y => decide (y < x)) : Int) ≤ a0
      · rw [if_pos g1, if_neg (fun g2 => g (hs.2 ⟨by omega, by omega⟩))]
      · rw [if_neg g1]
theorem refLeast_f (a0 : Int) (l : List Int) (hl : l.length ≤ 4096) (k : Nat) (hk : 2 + l.length * (l.length + 2) ≤ k) : clepsydraref07_Least.f k a0 l = some (least a0 l, has a0 l) := by
  obtain ⟨k, rfl⟩ : ∃ m, k = m + 1 + l.length * (l.length + 2) + 1 := ⟨k - (2 + l.length * (l.length + 2)), by omega⟩
  unfold clepsydraref07_Least.f least has
  by_cases h0 : a0 < 0
  · rw [if_pos h0, clepsydraref07_Least.j0, if_pos rfl, if_neg (by omega), decide_eq_false (by omega)]
  · rw [if_neg h0, clepsydraref07_Least.j0]
    by_cases h1 : a0 ≥ (l.length : Int)
    · rw [if_pos (decide_eq_true h1), if_neg (by omega), decide_eq_false (by omega)]
    · rw [if_neg (by simpa using h1), refLeast_l0 a0 l hl (by omega) (by omega) l.length k 0 (by omega) (by omega) (by omega) (by simpa using srt_mem l a0.toNat (by omega)), if_pos (by omega), decide_eq_true (by omega)]
theorem refMost_f (a0 : Int) (l : List Int) (hl : l.length ≤ 4096) (k : Nat) (hk : 2 + l.length * (l.length + 2) ≤ k) : clepsydraref07_Most.f k a0 l = some (most a0 l, has a0 l) := by
  unfold clepsydraref07_Most.f
  by_cases h0 : a0 < 0
  · rw [if_pos h0]; unfold most has; rw [if_neg (by omega), decide_eq_false (by omega)]
  · rw [if_neg h0]
    by_cases h1 : a0 ≥ (l.length : Int)
    · rw [if_pos h1]; unfold most has; rw [if_neg (by omega), decide_eq_false (by omega)]
    · rw [if_neg h1, wrap_id (x := (l.length : Int) - 1) (by omega) (by omega), wrap_id (by omega) (by omega), refLeast_f _ l hl k hk]
      obtain ⟨e1, e2⟩ := least_most (a0 := a0) (l := l) (by omega) (by omega)
      rw [e1, e2]
      unfold has
      rw [decide_eq_true (by omega)]
      rfl
theorem refClip_f (x : Int) : clepsydraref01_Clip.f x = some (clip x) := by
  unfold clepsydraref01_Clip.f clip
  by_cases h1 : x > 2305843009213693952
  · rw [if_pos h1, if_neg (by omega), if_pos h1]
  · rw [if_neg h1]
    by_cases h2 : x < -2305843009213693952
    · rw [if_pos h2, if_pos h2]
    · rw [if_neg h2, if_neg h2, if_neg h1]
theorem Few_f (f n : Int) (hn : 0 ≤ n) (hn2 : n ≤ 4096) : clepsydraref07_Few.f f n = some (few f n) := by
  unfold clepsydraref07_Few.f few
  by_cases h0 : f < 0
  · rw [if_pos h0, decide_eq_true (by omega)]
  · rw [if_neg h0]
    by_cases h1 : f > n
    · rw [if_pos h1, decide_eq_true (by omega)]
    · rw [if_neg h1, wrap_id (x := 2 * f) (by omega) (by omega), wrap_id (by omega) (by omega)]
      congr 1
      rw [decide_eq_decide]
      omega
theorem refOf_f (a b : Int) : clepsydraref03_Of.f a b = some (clip a, clip b) := by
  unfold clepsydraref03_Of.f
  rw [refClip_f, refClip_f]
  rfl
theorem refFuse_l0 (f : Int) (l : List S33) (hl : l.length ≤ 256) (m : Nat) (hm : 70000 ≤ m) : ∀ (d : Nat) (i : Int) (x y : List Int), 0 ≤ i → i ≤ l.length → (l.length : Int) - i = d → x.length = i.toNat → y.length = i.toNat →
    clepsydraref07_Fuse.l0 (m + 1 + d) f x y l (l.length : Int) i = some (fin f (x ++ lows (l.drop i.toNat)) (y ++ highs (l.drop i.toNat))) := by
  have hb : ∀ x : List Int, x.length ≤ 256 → x.length * (x.length + 2) ≤ 256 * 258 := fun x hx => Nat.mul_le_mul hx (by omega)
  intro d
  induction d with
  | zero =>
    intro i x y h0 h1 hd hx hy
    have b1 := hb x (by omega)
    have b2 := hb y (by omega)
    rw [drop_end l i (by omega)]
    rw [Nat.add_zero, clepsydraref07_Fuse.l0, if_neg (by omega), refMost_f f x (by omega) _ (by omega), refLeast_f f y (by omega) _ (by omega)]
    simp only [Option.bind_some, lows, highs, List.map_nil, List.append_nil, fin]
    by_cases g : most f x > least f y
    · rw [if_pos g, if_pos g]
    · rw [if_neg g, if_neg g, refOf_f]
      rfl
  | succ d ih =>
    intro i x y h0 h1 hd hx hy
    rw [drop_at z33 l i h0 (by omega)]
    rw [← Nat.add_assoc, clepsydraref07_Fuse.l0, if_pos (by omega), if_pos h0, if_pos (by omega)]
    change _ = some (fin f (x ++ lows (rd_T33 l i :: _)) (y ++ highs (rd_T33 l i :: _)))
    generalize rd_T33 l i = n
    rw [if_pos (by omega), if_pos (by omega), wrap_id (by omega) (by omega), ih (i + 1) (x ++ [n.f0]) (y ++ [n.f1]) (by omega) (by omega) (by omega) (by simp; omega) (by simp; omega)]
    simp [lows, highs, List.append_assoc]
theorem refFuse_f (f : Int) (l : List S33) (hl : l.length ≤ 256) (k : Nat) (hk : 70001 + l.length ≤ k) : clepsydraref07_Fuse.f k f l = some (fuse f l) := by
  obtain ⟨k, rfl⟩ : ∃ m, k = m + 1 + l.length := ⟨k - (l.length + 1), by omega⟩
  unfold clepsydraref07_Fuse.f fuse
  rw [Few_f f _ (by omega) (by omega)]
  simp only [Option.bind_some]
  by_cases h : few f (l.length : Int) = true
  · rw [if_pos h, if_pos h]
  · rw [if_neg h, if_neg h, refFuse_l0 f l hl k (by omega) l.length 0 [] [] (by omega) (by omega) (by omega) rfl rfl]
    rfl
theorem refAdd2_f (k : Nat) (a b : Int) : clepsydraref01_Add.f (k + 4) [a, b] = some (clip (clip a + clip b)) := by
  have h1 := clip_bd a
  have h2 := clip_bd b
  unfold clepsydraref01_Add.f
  rw [clepsydraref01_Add.l0, if_pos (by simp), if_pos (by decide), if_pos (by simp), show rd [a, b] 0 = a from rfl, refClip_f]
  simp only [Option.bind_some]
  rw [wrap_id (x := 0 + clip a) (by omega) (by omega), Int.zero_add, refClip_f]
  simp only [Option.bind_some]
  rw [clip_clip, show wrap64 (0 + 1) = 1 from wrap_id (by decide) (by decide), clepsydraref01_Add.l0, if_pos (by simp), if_pos (by decide), if_pos (by simp), show rd [a, b] 1 = b from rfl, refClip_f]
  simp only [Option.bind_some]
  rw [wrap_id (x := clip a + clip b) (by omega) (by omega), refClip_f]
  simp only [Option.bind_some]
  rw [show wrap64 (1 + 1) = 2 from wrap_id (by decide) (by decide), clepsydraref01_Add.l0, if_neg (by simp)]
def bnd (x : Int) : Int := if x < 0 then 0 else if x > 1073741824 then 1073741824 else x
def more (n : Int) : Int := bnd (clip (clip n + clip 1))
theorem More2_f (k : Nat) (n : Int) : anchor_More.f (k + 4) n = some (more n) := by
  unfold anchor_More.f
  rw [Add2_f]
  simp only [Option.bind_some]
  rw [Bound_f (k + 3) _ _ _ (by omega)]
  rfl
theorem refMore_f (k : Nat) (n : Int) : clepsydraref16_More.f (k + 4) n = some (more n) := by
  unfold clepsydraref16_More.f more bnd
  rw [refAdd2_f]
  simp only [Option.bind_some]
  generalize clip (clip n + clip 1) = x
  unfold clepsydraref01_Bound.f
  rw [if_neg (by omega), clepsydraref01_Bound.j0]
  by_cases h1 : x < 0
  · rw [if_pos (decide_eq_true h1), if_pos h1]
    rfl
  · rw [if_neg (by simpa using h1), if_neg h1]
    by_cases h2 : x > 1073741824
    · rw [if_pos h2, if_pos h2]
      rfl
    · rw [if_neg h2, if_neg h2]
      rfl
def held (F : Int) (l : List Int) : Int × Bool := if has F l = true then (more (least F l), true) else (1073741824, false)
theorem Held2_f (b0 F b2 b3 b4 b5 b6 b7 b8 b9 b10 b11 : Int) (l : List Int) (hl : l.length ≤ 4096) (k : Nat) : anchor_Held.f (k + 4) b0 F b2 b3 b4 b5 b6 b7 b8 b9 b10 b11 l = some (held F l) := by
  unfold anchor_Held.f held
  rw [Least_f F l hl]
  simp only [Option.bind_some]
  by_cases h : has F l = true
  · rw [if_pos h, if_pos h, More2_f]
    rfl
  · rw [if_neg h, if_neg h]
theorem refHeld_f (b0 F b2 b3 b4 b5 b6 b7 b8 b9 b10 b11 : Int) (l : List Int) (hl : l.length ≤ 4096) (k : Nat) (hk : 2 + l.length * (l.length + 2) ≤ k + 4) : clepsydraref16_Held.f (k + 4) b0 F b2 b3 b4 b5 b6 b7 b8 b9 b10 b11 l = some (held F l) := by
  unfold clepsydraref16_Held.f held
  rw [refLeast_f F l hl _ hk]
  simp only [Option.bind_some]
  by_cases h : has F l = true
  · rw [if_pos h, if_pos h, refMore_f]
    rfl
  · rw [if_neg h, if_neg h]
def seen (e r : Int) : Int × Int × Bool := if e < 0 ∨ r > 1152921504606846976 ∨ r < -1152921504606846976 then (0, 0, false) else (clip (clip r - clip e), clip (clip r + clip e), true)
theorem Sub_f (k : Nat) (a b : Int) : sat_Sub.f (k + 1) a b = some (clip (clip a - clip b)) := by
  have h1 := clip_bd a
  have h2 := clip_bd b
  unfold sat_Sub.f
  rw [Clip_f, Clip_f]
  simp only [Option.bind_some]
  rw [wrap_id (by omega) (by omega), Clip_f]
  rfl
theorem refSub_f (a b : Int) : clepsydraref01_Sub.f a b = some (clip (clip a - clip b)) := by
  have h1 := clip_bd a
  have h2 := clip_bd b
  unfold clepsydraref01_Sub.f
  rw [refClip_f, refClip_f]
  simp only [Option.bind_some]
  rw [wrap_id (by omega) (by omega), refClip_f]
  rfl
theorem Seen_f (b0 F b2 b3 b4 b5 b6 b7 b8 b9 b10 b11 r : Int) (k : Nat) : anchor_Seen.f (k + 5) b0 F b2 b3 b4 b5 b6 b7 b8 b9 b10 b11 r = some (seen b7 r) := by
  unfold anchor_Seen.f seen
  by_cases h1 : r > 1152921504606846976
  · rw [if_pos h1, anchor_Seen.j0, if_pos rfl, if_pos (by omega)]
  rw [if_neg h1]
  by_cases h2 : r < -1152921504606846976
  · rw [if_pos h2, anchor_Seen.j0, if_pos rfl, if_pos (by omega)]
  rw [if_neg h2, anchor_Seen.j0]
  by_cases h3 : b7 < 0
  · rw [if_pos (decide_eq_true h3), if_pos (by omega)]
  rw [if_neg (by simpa using h3), if_neg (by omega), Sub_f (k + 3), Add2_f]
  rfl
theorem refSeen_f (b0 F b2 b3 b4 b5 b6 b7 b8 b9 b10 b11 r : Int) (k : Nat) : clepsydraref16_Seen.f (k + 5) b0 F b2 b3 b4 b5 b6 b7 b8 b9 b10 b11 r = some (seen b7 r) := by
  unfold clepsydraref16_Seen.f seen
  by_cases h3 : b7 < 0
  · rw [if_pos h3, clepsydraref16_Seen.j0, if_pos rfl, if_pos (by omega)]
  rw [if_neg h3]
  by_cases h1 : r > 1152921504606846976
  · rw [if_pos h1, clepsydraref16_Seen.j0, if_pos rfl, if_pos (by omega)]
  rw [if_neg h1, clepsydraref16_Seen.j0]
  by_cases h2 : r < -1152921504606846976
  · rw [if_pos (decide_eq_true h2), if_pos (by omega)]
  rw [if_neg (by simpa using h2), if_neg (by omega), refSub_f, refAdd2_f]
  rfl
end Go.Proofs.Ytaiggeogiolbnaa.R
