/- TrimAgrees: the pure statement. -/
import Derived.Test.YtdnddekoankmmaaJ2
import Derived.Test.YtdnddekoankmmaaPl
namespace Go.Proofs.Ytdnddekoankmmaa.Pure
open Go.RowKit Go.Proofs.Ytdnddekoankmmaa.J Go.Proofs.YtdnddekoankmmaaW.PrintWords Go.Proofs.YtdnddekoankmmaaW.PrintLast Go.Proofs.YtdnddekoankmmaaPl Go.Proofs.Ytdnddekoankmmaa.Ap
theorem refAgreed_l1 (l : List Int) (b m i x : Int) (hl : l.length ≤ 4096) : ∀ (d k : Nat) (n j : Int), 0 ≤ j → j ≤ l.length → (l.length : Int) - j = d → 0 ≤ n → n ≤ j → n + (cnt (l.drop j.toNat) x : Int) = cnt l x →
    clepsydraref07_Agreed.l1 (k + 1 + d) l b m i x n l (l.length : Int) i l (l.length : Int) j = if (cnt l x : Int) > m then clepsydraref07_Agreed.l0 k l i (cnt l x : Int) l (l.length : Int) (wrap64 (i + 1)) else clepsydraref07_Agreed.l0 k l b m l (l.length : Int) (wrap64 (i + 1)) := by
  intro d
  induction d with
  | zero =>
    intro k n j h0 h1 hd _ _ hn
    rw [drop_end l j (by omega)] at hn
    rw [Nat.add_zero, clepsydraref07_Agreed.l1, if_neg (by omega), show n = (cnt l x : Int) by simpa [cnt] using hn]
  | succ d ih =>
    intro k n j h0 h1 hd b0 b1 hn
    rw [drop_at 0 l j h0 (by omega)] at hn
    unfold cnt at hn
    rw [List.countP_cons] at hn
    rw [← Nat.add_assoc, clepsydraref07_Agreed.l1, if_pos (by omega), if_pos h0, if_pos (by omega)]
    change _ + ((List.countP _ _ + (if (rd l j == x) = true then 1 else 0) : Nat) : Int) = _ at hn
    generalize rd l j = y at *
    rw [wrap_id (x := j + 1) (by omega) (by omega), wrap_id (x := n + 1) (by omega) (by omega)]
    by_cases g : x = y
    · rw [if_pos g]
      rw [if_pos (by simp [g])] at hn
      exact ih k (n + 1) (j + 1) (by omega) (by omega) (by omega) (by omega) (by omega) (by unfold cnt; omega)
    · rw [if_neg g]
      rw [if_neg (by simp; exact fun e => g e.symm)] at hn
      exact ih k n (j + 1) (by omega) (by omega) (by omega) (by omega) (by omega) (by unfold cnt; omega)
def topv (f : Int) (s : Int × Int) : Int := if s.1 < 0 then f else s.2
theorem refAgreed_l0 (f : Int) (hf : 0 ≤ f) (l : List Int) (hl : l.length ≤ 4096) : ∀ (d k i : Nat), i ≤ l.length → l.length - i = d →
    clepsydraref07_Agreed.l0 (k + 1 + d * (l.length + 2)) l (pick f l i).1 (topv f (pick f l i)) l (l.length : Int) (i : Int) = some (pick f l l.length).1 := by
  intro d
  induction d with
  | zero =>
    intro k i h1 hd
    obtain rfl : i = l.length := by omega
    rw [Nat.zero_mul, Nat.add_zero, clepsydraref07_Agreed.l0, if_neg (by omega)]
  | succ d ih =>
    intro k i h1 hd
    rw [show k + 1 + (d + 1) * (l.length + 2) = ((k + 1 + d * (l.length + 2)) + 1 + l.length) + 1 by rw [Nat.add_mul]; omega]
    rw [clepsydraref07_Agreed.l0, if_pos (by omega), if_pos (by omega), if_pos (by omega)]
    have hx : rd l (i : Int) = l[i]?.getD 0 := by unfold rd; rw [Int.toNat_natCast, List.getD_eq_getElem?_getD]
    have hp := pick_succ f l i
    have hb := pick_best f l i
    have hr := pick_range f l i
    have e := ih k (i + 1) (by omega) (by omega)
    rw [← hx] at hp
    rw [refAgreed_l1 l _ _ (i : Int) (rd l (i : Int)) hl l.length (k + 1 + d * (l.length + 2)) 0 0 (by omega) (by omega) (by omega) (by omega) (by omega) (by simp)]
    rw [wrap_id (x := (i : Int) + 1) (by omega) (by omega)]
    rw [hp] at e
    rw [show ((i + 1 : Nat) : Int) = (i : Int) + 1 from rfl] at e
    generalize hs : pick f l i = s at *
    generalize (cnt l (rd l (i : Int)) : Int) = c at *
    by_cases g : f < c ∧ s.2 < c
    · rw [if_pos g] at e
      have g2 : c > topv f s := by unfold topv; split <;> omega
      rw [if_pos g2]
      have e2 : topv f ((i : Int), c) = c := by unfold topv; rw [if_neg (by dsimp only; omega)]
      rw [e2] at e
      exact e
    · rw [if_neg g] at e
      have g2 : ¬ c > topv f s := by
        unfold topv
        split
        · rename_i h
          have := (hb.none h).1
          rw [this] at g
          dsimp only at g
          omega
        · rename_i h
          have := (hb.some (by omega)).2.2
          omega
      rw [if_neg g2]
      exact e
theorem refAgreed_f (f : Int) (hf : 0 ≤ f) (l : List Int) (hl : l.length ≤ 4096) (k : Nat) (hk : 1 + l.length * (l.length + 2) ≤ k) : clepsydraref07_Agreed.f k f l = some (pick f l l.length).1 := by
  obtain ⟨k, rfl⟩ : ∃ m, k = m + 1 + l.length * (l.length + 2) := ⟨k - (1 + l.length * (l.length + 2)), by omega⟩
  unfold clepsydraref07_Agreed.f
  exact refAgreed_l0 f hf l hl l.length k 0 (by omega) (by omega)
theorem TrimAgrees : ∀ (a0 : Int) (l1 : List (Int)), (Lit.int .i64 a0).wf = true → (l1.length ≤ maxLen ∧ l1.length * 8 ≤ 140737488351232 ∧ ∀ x0_ ∈ l1, (Lit.int .i64 x0_).wf = true) → ∃ k, Go.Proofs.Ytdnddekoankmmaa.J.clepsydralaw07_TrimAgrees.f k a0 l1 = some true := by
  intro f l _ hl
  refine ⟨70000, ?_⟩
  have hb : l.length ≤ 256 → l.length * (l.length + 2) ≤ 256 * 258 := fun h => Nat.mul_le_mul h (by omega)
  have e0 : trim_Agreed_int.f 1 [7, 8, 7] = some (7, true) := by rw [trim_Agreed_int.f_is _ _ (by decide)]; rfl
  unfold clepsydralaw07_TrimAgrees.f
  rw [e0]
  simp only [Option.bind_some]
  rw [if_pos trivial, clepsydralaw07_TrimAgrees.j0, if_neg (by simp)]
  by_cases h1 : (l.length : Int) > 256
  · rw [if_pos h1, clepsydralaw07_TrimAgrees.j1, if_pos rfl]
  · rw [if_neg h1, clepsydralaw07_TrimAgrees.j1]
    by_cases h2 : f < 0
    · rw [if_pos (decide_eq_true h2)]
    · have b1 := hb (by omega)
      rw [if_neg (by simpa using h2), trim_Agreed_int.f_is _ _ ⟨hl.2.1, hl.2.2⟩, refAgreed_f f (by omega) l (by omega) _ (by omega)]
      simp only [Option.bind_some]
      have hr := pick_range f l l.length
      unfold agreed
      generalize (pick f l l.length).1 = b at *
      by_cases hn : b < 0
      · rw [if_pos hn, if_pos (by simp; omega), if_pos hn, if_pos rfl]
      · rw [if_neg hn, if_pos (by simp; omega), if_neg hn, if_pos (by omega), if_pos (by omega), if_pos (by omega)]
        simp [rd]
end Go.Proofs.Ytdnddekoankmmaa.Pure
