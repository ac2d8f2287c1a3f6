/- TrimVotes: the pure statement. -/
import Derived.Test.YtdnddekoankmmaaJt
import Derived.Test.YtdnddekoankmmaaJ13
namespace Go.Proofs.Ytdnddekoankmmaa.Pure
open Go.RowKit Go.Proofs.Ytdnddekoankmmaa.J Go.Proofs.YtdnddekoankmmaaW.PrintWords Go.Proofs.YtdnddekoankmmaaW.PrintLast Go.Proofs.YtdnddekoankmmaaPl Go.Proofs.Ytdnddekoankmmaa.Ap

def bad (p : (Bool × Int)) : Bool := !p.1
def says (x : Int) (p : (Bool × Int)) : Bool := !p.1 || p.2 == x
theorem zip_at (r : List Bool) (l : List Int) (h : r.length = l.length) (i : Int) (h0 : 0 ≤ i) (h1 : i < (r.length : Int)) : (r.zip l).drop i.toNat = (rdOf false r i, rd l i) :: (r.zip l).drop (i + 1).toNat := by
  have hz : (r.zip l).length = r.length := by rw [List.length_zip]; omega
  rw [drop_at (false, 0) (r.zip l) i h0 (by omega)]
  have hi : i.toNat < r.length := by omega
  have e : (r.zip l).getD i.toNat (false, 0) = (rdOf false r i, rd l i) := by
    unfold rdOf rd
    rw [List.getD_eq_getElem?_getD, List.getD_eq_getElem?_getD, List.getD_eq_getElem?_getD, List.getElem?_eq_getElem (by omega), List.getElem?_eq_getElem hi, List.getElem?_eq_getElem (by omega), Option.getD_some, Option.getD_some, Option.getD_some, List.getElem_zip]
  rw [e]
theorem zip_end (r : List Bool) (l : List Int) (i : Int) (h : (r.length : Int) ≤ i) : (r.zip l).drop i.toNat = [] := by
  have : (r.zip l).length ≤ r.length := by rw [List.length_zip]; omega
  exact drop_end _ i (by omega)
theorem Votes_l1 (l : List Int) (v : Int) (r : List Bool) (h : r.length = l.length) (hl : l.length ≤ 4096) : ∀ (d k : Nat) (s : Bool) (i : Int), 0 ≤ i → i ≤ r.length → (r.length : Int) - i = d →
    clepsydralaw07_TrimVotes.l1 (k + 1 + d) l v s r (r.length : Int) i = some (s || ((r.zip l).drop i.toNat).any (fun p => p.1 && p.2 == v)) := by
  intro d
  induction d with
  | zero =>
    intro k s i h0 h1 hd
    rw [zip_end r l i (by omega), Nat.add_zero, clepsydralaw07_TrimVotes.l1, if_neg (by omega)]
    simp
  | succ d ih =>
    intro k s i h0 h1 hd
    rw [zip_at r l h i h0 (by omega), ← Nat.add_assoc, clepsydralaw07_TrimVotes.l1, if_pos (by omega), if_pos h0, if_pos (by omega), wrap_id (x := i + 1) (by omega) (by omega)]
    generalize rdOf false r i = b
    generalize rd l i = y
    by_cases g : s = true
    · rw [if_pos g, ih k true (i + 1) (by omega) (by omega) (by omega), g]
      simp
    · have g' : s = false := by simpa using g
      rw [if_neg g, g']
      by_cases gb : b = true
      · rw [if_pos gb, if_pos (by omega), ih k (y == v) (i + 1) (by omega) (by omega) (by omega), gb]
        simp [List.any_cons]
      · have gb' : b = false := by simpa using gb
        rw [if_neg gb, ih k false (i + 1) (by omega) (by omega) (by omega), gb']
        simp [List.any_cons]
def last (k : Nat) (f : Int) (l : List Int) (r : List Bool) (x w : Int) (a : Bool) (n : Int) : Option Bool :=
  if w > f then (some true) else ((trim_Agreed_int.f f l).bind fun bt270 => (if a = true then (if n > f then (if bt270.2 = true then (clepsydralaw07_TrimVotes.j2 k l r bt270.1 bt270.2 (bt270.1 != x)) else (clepsydralaw07_TrimVotes.j2 k l r bt270.1 bt270.2 true)) else (clepsydralaw07_TrimVotes.j2 k l r bt270.1 bt270.2 false)) else (clepsydralaw07_TrimVotes.j2 k l r bt270.1 bt270.2 false)))
theorem Votes_l0 (f : Int) (l : List Int) (r : List Bool) (x : Int) (h : r.length = l.length) (hl : l.length ≤ 4096) : ∀ (d k : Nat) (w : Int) (a : Bool) (n : Int) (i : Int), 0 ≤ i → i ≤ r.length → (r.length : Int) - i = d → 0 ≤ w → w ≤ i → 0 ≤ n → n ≤ i →
    clepsydralaw07_TrimVotes.l0 (k + 1 + d) f l r x w a n r (r.length : Int) i = last k f l r x (w + (((r.zip l).drop i.toNat).countP bad : Nat)) (a && ((r.zip l).drop i.toNat).all (says x)) (n + (((r.zip l).drop i.toNat).countP (fun p => p.1) : Nat)) := by
  intro d
  induction d with
  | zero =>
    intro k w a n i h0 h1 hd _ _ _ _
    rw [zip_end r l i (by omega), Nat.add_zero, clepsydralaw07_TrimVotes.l0, if_neg (by omega)]
    simp only [List.countP_nil, List.all_nil, Bool.and_true, Int.natCast_zero, Int.add_zero]
    rfl
  | succ d ih =>
    intro k w a n i h0 h1 hd w0 w1 n0 n1
    rw [zip_at r l h i h0 (by omega), ← Nat.add_assoc, clepsydralaw07_TrimVotes.l0, if_pos (by omega), if_pos h0, if_pos (by omega), wrap_id (x := i + 1) (by omega) (by omega), wrap_id (x := n + 1) (by omega) (by omega), wrap_id (x := w + 1) (by omega) (by omega)]
    generalize rdOf false r i = b
    generalize rd l i = y
    rw [List.countP_cons, List.countP_cons, List.all_cons]
    by_cases gb : b = true
    · rw [if_pos gb, gb]
      by_cases ga : a = true
      · rw [if_pos ga, if_pos (by omega), ih k w (y == x) (n + 1) (i + 1) (by omega) (by omega) (by omega) (by omega) (by omega) (by omega) (by omega), ga]
        simp only [bad, says]
        simp only [Bool.not_true, Bool.false_or, Bool.true_and, Bool.false_eq_true, if_false, if_true, Nat.add_zero]
        congr 1
        omega
      · have ga' : a = false := by simpa using ga
        rw [if_neg ga, ih k w false (n + 1) (i + 1) (by omega) (by omega) (by omega) (by omega) (by omega) (by omega) (by omega), ga']
        simp only [bad, says]
        simp only [Bool.not_true, Bool.false_or, Bool.false_and, Bool.false_eq_true, if_false, if_true, Nat.add_zero]
        congr 1
        omega
    · have gb' : b = false := by simpa using gb
      rw [if_neg gb, gb', ih k (w + 1) a n (i + 1) (by omega) (by omega) (by omega) (by omega) (by omega) (by omega) (by omega)]
      simp only [bad, says]
      simp only [Bool.not_false, Bool.true_or, Bool.true_and, Bool.false_eq_true, if_false, if_true, Nat.add_zero]
      congr 1
      omega
theorem cnt_zip (r : List Bool) (l : List Int) (h : r.length = l.length) (x : Int) : cnt l x = (r.zip l).countP (fun p => p.2 == x) := by
  have e : (r.zip l).map Prod.snd = l := List.map_snd_zip (by omega)
  unfold cnt
  conv => lhs; rw [← e]
  rw [List.countP_map]
  rfl
theorem cnt_or {α : Type} {p q r : α → Bool} {l : List α} (h : ∀ x, x ∈ l → p x = true → q x = true ∨ r x = true) : l.countP p ≤ l.countP q + l.countP r := by
  induction l with
  | nil => simp
  | cons a l ih =>
    have ih' := ih (fun x hx => h x (List.mem_cons_of_mem _ hx))
    have ha := h a List.mem_cons_self
    rw [List.countP_cons, List.countP_cons, List.countP_cons]
    by_cases g : p a = true
    · rw [if_pos g]
      rcases ha g with g1 | g1 <;> rw [if_pos g1] <;> split <;> omega
    · rw [if_neg g]
      split <;> split <;> omega
theorem votes_right (f : Int) (l : List Int) (r : List Bool) (h : r.length = l.length) (v : Int) (hv : f < (cnt l v : Int)) (hw : ((r.zip l).countP bad : Int) ≤ f) : (r.zip l).any (fun p => p.1 && p.2 == v) = true := by
  rw [cnt_zip r l h v] at hv
  have := cnt_or (p := fun p : (Bool × Int) => p.2 == v) (q := bad) (r := fun p : (Bool × Int) => p.1 && p.2 == v) (l := r.zip l) (fun p _ hp => by
    by_cases g : p.1 = true
    · right; simp only [g, hp, Bool.and_true]
    · left; simpa [bad] using g)
  have : 0 < (r.zip l).countP (fun p : (Bool × Int) => p.1 && p.2 == v) := by omega
  rw [List.countP_pos_iff] at this
  rw [List.any_eq_true]
  exact this
theorem votes_last (f : Int) (hf : 0 ≤ f) (l : List Int) (r : List Bool) (x : Int) (h : r.length = l.length) (hl : l.length ≤ 256) (hok : trim_Agreed_int.ok l) (k : Nat) (hk : l.length + 2 ≤ k) :
    last k f l r x (((r.zip l).countP bad : Nat) : Int) ((r.zip l).all (says x)) (((r.zip l).countP (fun p => p.1) : Nat) : Int) = some true := by
  obtain ⟨k, rfl⟩ : ∃ m, k = m + 1 + r.length + 1 := ⟨k - (l.length + 2), by omega⟩
  unfold last
  by_cases hw : (((r.zip l).countP bad : Nat) : Int) > f
  · rw [if_pos hw]
  · rw [if_neg hw, trim_Agreed_int.f_is _ _ hok]
    obtain ⟨v, ok, e⟩ : ∃ v ok, agreed f l = (v, ok) := ⟨_, _, rfl⟩
    rw [e]
    simp only [Option.bind_some]
    have fin : clepsydralaw07_TrimVotes.j2 (k + 1 + r.length + 1) l r v ok false = some true := by
      rw [clepsydralaw07_TrimVotes.j2, if_neg (by simp), Votes_l1 l v r h (by omega) r.length k (!ok) 0 (by omega) (by omega) (by omega)]
      cases ok with
      | false => simp
      | true =>
        rw [show ((0 : Int).toNat) = 0 from rfl, List.drop_zero, votes_right f l r h v (agreed_true e) (by omega)]
        rfl
    by_cases ga : (r.zip l).all (says x) = true
    · rw [if_pos ga]
      by_cases gn : (((r.zip l).countP (fun p => p.1) : Nat) : Int) > f
      · rw [if_pos gn]
        have hall := List.all_eq_true.1 ga
        have hx : f < (cnt l x : Int) := by
          rw [cnt_zip r l h x]
          have := List.countP_mono_left (l := r.zip l) (p := fun p : (Bool × Int) => p.1) (q := fun p : (Bool × Int) => p.2 == x) (fun p hp g => by
            have := hall p hp
            unfold says at this
            rw [g] at this
            simpa using this)
          omega
        cases ok with
        | false => have := (agreed_false hf e).2 x; omega
        | true =>
          have hv := agreed_true e
          have hvx : v = x := by
            by_cases g : v = x
            · exact g
            · rw [cnt_zip r l h v] at hv
              have := List.countP_mono_left (l := r.zip l) (p := fun p : (Bool × Int) => p.2 == v) (q := bad) (fun p hp gp => by
                have h1 := hall p hp
                unfold says at h1
                unfold bad
                cases hp1 : p.1 with
                | false => rfl
                | true =>
                  rw [hp1] at h1
                  have h2 : p.2 = x := by simpa using h1
                  have h3 : p.2 = v := by simpa using gp
                  exact absurd (h3.symm.trans h2) g)
              omega
          rw [if_pos rfl, hvx]
          rw [hvx] at fin
          rw [show (x != x) = false by simp]
          exact fin
      · rw [if_neg gn]
        exact fin
    · rw [if_neg ga]
      exact fin
theorem TrimVotes : ∀ (a0 : Int) (l1 : List (Int)) (l2 : List (Bool)) (a3 : Int), (Lit.int .i64 a0).wf = true → (l1.length ≤ maxLen ∧ l1.length * 8 ≤ 140737488351232 ∧ ∀ x0_ ∈ l1, (Lit.int .i64 x0_).wf = true) → (l2.length ≤ maxLen ∧ l2.length * 1 ≤ 140737488351232 ∧ ∀ x0_ ∈ l2, True) → (Lit.int .i64 a3).wf = true → ∃ k, Go.Proofs.Ytdnddekoankmmaa.J.clepsydralaw07_TrimVotes.f k a0 l1 l2 a3 = some true := by
  intro f l r x _ hl _ _
  refine ⟨1000, ?_⟩
  unfold clepsydralaw07_TrimVotes.f
  rw [alive07_f _ (by omega)]
  simp only [Option.bind_some]
  rw [if_pos trivial]
  by_cases h1 : (l.length : Int) > 256
  · rw [if_pos h1, clepsydralaw07_TrimVotes.j0, if_pos rfl]
  · rw [if_neg h1]
    by_cases h2 : f < 0
    · rw [if_pos h2, clepsydralaw07_TrimVotes.j0, if_pos rfl]
    · rw [if_neg h2, clepsydralaw07_TrimVotes.j0]
      by_cases h3 : r.length = l.length
      · rw [if_neg (by simp [h3])]
        obtain ⟨k, hk, hk2⟩ : ∃ k, 999 = k + 1 + r.length ∧ l.length + 2 ≤ k := ⟨998 - r.length, by omega, by omega⟩
        rw [hk, Votes_l0 f l r x h3 (by omega) r.length k 0 true 0 0 (by omega) (by omega) (by omega) (by omega) (by omega) (by omega) (by omega)]
        simp only [Int.toNat_zero, List.drop_zero, Int.zero_add, Bool.true_and]
        exact votes_last f (by omega) l r x h3 (by omega) ⟨hl.2.1, hl.2.2⟩ k hk2
      · rw [if_pos (by simp; omega)]
end Go.Proofs.Ytdnddekoankmmaa.Pure
