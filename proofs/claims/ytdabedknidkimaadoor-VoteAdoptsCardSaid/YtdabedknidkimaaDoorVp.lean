/- vote, plainly: which tables are good, as the printed functions reckon it. -/
import Derived.Test.YtdabedknidkimaaDoorX3
namespace Go.Proofs.YtdabedknidkimaaDoor.Vt
open Go.RowKit Go.Proofs.YtdabedknidkimaaDoorW.PrintWords Go.Proofs.YtdabedknidkimaaDoorW.PrintLast Go.Proofs.YtdabedknidkimaaDoorW.PrintMore Go.Proofs.YtdabedknidkimaaDoor.X
set_option linter.unusedVariables false
set_option linter.unusedSimpArgs false
def okE (x : S37) : Prop := (-9223372036854775808 ≤ x.f0 ∧ x.f0 ≤ 9223372036854775807) ∧ (-9223372036854775808 ≤ x.f1 ∧ x.f1 ≤ 9223372036854775807)
theorem in_one (k : Nat) (lo hi x : Int) : wire_in.f (k + 2) lo hi [x] = some (decide (lo ≤ x ∧ x ≤ hi)) := by
  have w1 : wrap64 (0 + 1) = 1 := by unfold wrap64; decide
  have hr : rd [x] 0 = x := rfl
  have hl : (([x] : List Int).length : Int) = 1 := rfl
  unfold wire_in.f
  rw [hl]
  unfold wire_in.l0
  rw [if_pos (by decide), if_pos (by decide), hl, if_pos (by decide), hr]
  by_cases h1 : x < lo
  · rw [if_pos h1]
    congr 1
    symm
    rw [decide_eq_false_iff_not]
    omega
  · rw [if_neg h1]
    by_cases h2 : x > hi
    · rw [if_pos h2]
      congr 1
      symm
      rw [decide_eq_false_iff_not]
      omega
    · rw [if_neg h2, w1]
      unfold wire_in.l0
      rw [if_neg (by decide)]
      congr 1
      symm
      rw [decide_eq_true_iff]
      omega
/-- An entry fits behind those ahead. -/
def fits (l : List S37) (i : Nat) (off : Int) : Bool :=
  decide (i < 32) && decide (0 ≤ (rd_T37 l i).f0 ∧ (rd_T37 l i).f0 ≤ 1099511627776) && decide (-32 ≤ (rd_T37 l i).f1 ∧ (rd_T37 l i).f1 ≤ 32) && (decide (i = 0) || decide (86400 ≤ (rd_T37 l i).f0 - (rd_T37 l ((i : Int) - 1)).f0)) && decide ((rd_T37 l i).f1 = off + 1 ∨ (rd_T37 l i).f1 = off - 1)
def tbI (l : List S37) : Nat → Nat → Int → Bool
  | 0, _, _ => true
  | d + 1, i, off => fits l i off && tbI l d (i + 1) (rd_T37 l i).f1
def tb (l : List S37) : Bool := tbI l l.length 0 0
def prevOk (l : List S37) (i : Nat) (off : Int) : Prop := (-32 ≤ off ∧ off ≤ 32) ∧ (i = 0 ∨ 0 ≤ (rd_T37 l ((i : Int) - 1)).f0 ∧ (rd_T37 l ((i : Int) - 1)).f0 ≤ 1099511627776)
theorem fits_next {l : List S37} {i : Nat} {off : Int} (h : fits l i off = true) : prevOk l (i + 1) (rd_T37 l i).f1 := by
  unfold fits at h
  simp only [Bool.and_eq_true, decide_eq_true_eq] at h
  refine ⟨h.1.1.2, .inr ?_⟩
  rw [show (((i + 1 : Nat) : Int) - 1) = (i : Int) by omega]
  exact h.1.1.1.2
theorem ref_l0 (l : List S37) (hl : l.length ≤ 32) : ∀ (d i : Nat) (off : Int), i + d = l.length → prevOk l i off → clepsydraref06_Table.l0 (3 * d + 1) l off l (l.length : Int) (i : Int) = some (tbI l d i off)
  | 0, i, off, hi, hp => by
    unfold clepsydraref06_Table.l0
    rw [if_neg (by omega)]
    rfl
  | d + 1, i, off, hi, hp => by
    have ih := fun h => ref_l0 l hl d (i + 1) (rd_T37 l i).f1 (by omega) h
    have hw : wrap64 ((i : Int) + 1) = ((i + 1 : Nat) : Int) := by unfold wrap64; omega
    have hw1 : 0 < i → wrap64 ((i : Int) - 1) = (i : Int) - 1 := fun h => by unfold wrap64; omega
    obtain ⟨ho, hpr⟩ := hp
    have h32 : i < 32 := by omega
    have wo1 : wrap64 (off + 1) = off + 1 := by unfold wrap64; omega
    have wo2 : wrap64 (off - 1) = off - 1 := by unfold wrap64; omega
    rw [show 3 * (d + 1) + 1 = (3 * d + 1) + 1 + 1 + 1 by omega]
    unfold clepsydraref06_Table.l0
    rw [if_pos (by omega), if_pos (by omega), if_pos (by omega)]
    show _ = some (fits l i off && tbI l d (i + 1) (rd_T37 l i).f1)
    have hbad : fits l i off = false → clepsydraref06_Table.j1 ((3 * d + 1) + 1 + 1) l off (i : Int) l (l.length : Int) (i : Int) true (rd_T37 l i).f0 (rd_T37 l i).f1 = some (fits l i off && tbI l d (i + 1) (rd_T37 l i).f1) := fun hf => by
      rw [hf, Bool.false_and]
      unfold clepsydraref06_Table.j1
      rw [if_pos rfl]
    by_cases h1 : 0 ≤ (rd_T37 l i).f0 ∧ (rd_T37 l i).f0 ≤ 1099511627776
    · rw [if_neg (by omega), if_neg (by omega)]
      by_cases h2 : -32 ≤ (rd_T37 l i).f1 ∧ (rd_T37 l i).f1 ≤ 32
      · rw [if_neg (by omega), decide_eq_false (by omega)]
        unfold clepsydraref06_Table.j1
        rw [if_neg (by decide)]
        have hfin : (i = 0 ∨ 86400 ≤ (rd_T37 l i).f0 - (rd_T37 l ((i : Int) - 1)).f0) → clepsydraref06_Table.j2 ((3 * d + 1) + 1) l off l (l.length : Int) (i : Int) false (rd_T37 l i).f0 (rd_T37 l i).f1 = some (fits l i off && tbI l d (i + 1) (rd_T37 l i).f1) := by
          intro h3
          unfold clepsydraref06_Table.j2
          rw [if_neg (by decide), wo1, wo2, hw]
          by_cases h4 : (rd_T37 l i).f1 = off + 1 ∨ (rd_T37 l i).f1 = off - 1
          · have hf : fits l i off = true := by
              unfold fits
              simp only [Bool.and_eq_true, Bool.or_eq_true, decide_eq_true_eq]
              exact ⟨⟨⟨⟨h32, h1⟩, h2⟩, h3⟩, h4⟩
            have := ih (fits_next hf)
            rw [this, hf, Bool.true_and]
            rcases h4 with h4 | h4
            · rw [if_pos h4]
            · rw [if_neg (by omega), if_pos h4]
          · have hf : fits l i off = false := by
              unfold fits
              rw [decide_eq_false h4, Bool.and_false]
            rw [hf, Bool.false_and, if_neg (fun h => h4 (.inl h)), if_neg (fun h => h4 (.inr h))]
        by_cases hi0 : 0 < i
        · rw [if_pos (by omega), hw1 hi0, if_pos (by omega), if_pos (by omega)]
          have hpr' : 0 ≤ (rd_T37 l ((i : Int) - 1)).f0 ∧ (rd_T37 l ((i : Int) - 1)).f0 ≤ 1099511627776 := by
            rcases hpr with h | h
            · omega
            · exact h
          have hd2 : wrap64 ((rd_T37 l ((i : Int) - 1)).f0 + 86400) = (rd_T37 l ((i : Int) - 1)).f0 + 86400 := by unfold wrap64; omega
          rw [hd2]
          by_cases h3 : (rd_T37 l i).f0 < (rd_T37 l ((i : Int) - 1)).f0 + 86400
          · rw [decide_eq_true h3]
            unfold clepsydraref06_Table.j2
            rw [if_pos rfl]
            have hf : fits l i off = false := by
              unfold fits
              have e1 : decide (i = 0) = false := decide_eq_false (by omega)
              have e2 : decide (86400 ≤ (rd_T37 l i).f0 - (rd_T37 l ((i : Int) - 1)).f0) = false := decide_eq_false (by omega)
              rw [e1, e2, Bool.or_false, Bool.and_false, Bool.false_and]
            rw [hf, Bool.false_and]
          · rw [decide_eq_false h3]
            exact hfin (.inr (by omega))
        · rw [if_neg (by omega)]
          exact hfin (.inl (by omega))
      · have hf : fits l i off = false := by
          unfold fits
          rw [decide_eq_false h2, Bool.and_false, Bool.false_and, Bool.false_and]
        by_cases h5 : (rd_T37 l i).f1 < -32
        · rw [if_pos h5]
          exact hbad hf
        · rw [if_neg h5, decide_eq_true (by omega)]
          exact hbad hf
    · have hf : fits l i off = false := by
        unfold fits
        rw [decide_eq_false h1, Bool.and_false, Bool.false_and, Bool.false_and, Bool.false_and]
      by_cases h5 : (rd_T37 l i).f0 < 0
      · rw [if_pos h5]
        exact hbad hf
      · rw [if_neg h5, if_pos (by omega)]
        exact hbad hf
theorem tbI_long (l : List S37) : ∀ (d i : Nat) (off : Int), 32 < i + d → i ≤ 32 → tbI l d i off = false
  | 0, i, off, h, h2 => by omega
  | d + 1, i, off, h, h2 => by
    show (fits l i off && tbI l d (i + 1) (rd_T37 l i).f1) = false
    by_cases e : i = 32
    · have : fits l i off = false := by
        unfold fits
        rw [decide_eq_false (show ¬ i < 32 by omega), Bool.false_and, Bool.false_and, Bool.false_and, Bool.false_and]
      rw [this, Bool.false_and]
    · rw [tbI_long l d (i + 1) _ (by omega) (by omega), Bool.and_false]
theorem ref_tb (l : List S37) : clepsydraref06_Table.f (3 * l.length + 1) l = some (tb l) := by
  unfold clepsydraref06_Table.f
  by_cases h : l.length ≤ 32
  · rw [if_neg (by omega)]
    exact ref_l0 l h l.length 0 0 (by omega) ⟨by omega, .inl rfl⟩
  · rw [if_pos (by omega)]
    unfold tb
    rw [tbI_long l l.length 0 0 (by omega) (by omega)]
/-- Whole days. -/
def whole (x : S37) : Bool := (wrap64 (x.f0 - x.f1)).tmod 86400 == 0
def gd (l : List S37) : Bool := tb l && l.all whole
theorem good_l0 (l : List S37) (hl : l.length ≤ 4611686018427387904) : ∀ (d i : Nat), i + d = l.length → clepsydraref18_Good.l0 (d + 1) l (l.length : Int) (i : Int) = some ((l.drop i).all whole)
  | 0, i, hi => by
    unfold clepsydraref18_Good.l0
    rw [if_neg (by omega), List.drop_eq_nil_of_le (by omega)]
    rfl
  | d + 1, i, hi => by
    have ih := good_l0 l hl d (i + 1) (by omega)
    have hw : wrap64 ((i : Int) + 1) = ((i + 1 : Nat) : Int) := by unfold wrap64; omega
    have hil : i < l.length := by omega
    have hr : rd_T37 l i = l[i] := by simp [rd_T37, List.getD_eq_getElem?_getD, hil]
    unfold clepsydraref18_Good.l0
    rw [if_pos (by omega), if_pos (by omega), if_pos (by omega), hw, hr, List.drop_eq_getElem_cons hil, List.all_cons, ih]
    by_cases h : Int.tmod (wrap64 (l[i].f0 - l[i].f1)) 86400 = 0
    · rw [if_pos h]
      have : whole l[i] = true := beq_iff_eq.mpr h
      rw [this, Bool.true_and]
    · rw [if_neg h]
      have : whole l[i] = false := beq_eq_false_iff_ne.mpr h
      rw [this, Bool.false_and]
theorem ref_good (l : List S37) (hl : l.length ≤ 4611686018427387904) : ∃ k, clepsydraref18_Good.f k l = some (gd l) := by
  refine ⟨3 * l.length + 1, ?_⟩
  unfold clepsydraref18_Good.f
  rw [ref_tb, Option.bind_some]
  unfold gd
  cases h : tb l with
  | false => rw [if_neg (by decide), Bool.false_and]
  | true =>
    rw [if_pos rfl, Bool.true_and]
    have h1 := good_l0 l hl l.length 0 (by omega)
    rw [List.drop_zero] at h1
    exact at_rounds (g := fun k => clepsydraref18_Good.l0 k l (l.length : Int) 0) (fun k => (clepsydraref18_Good.mono_l k) _ _ _) (k := l.length + 1) (by omega) h1
end Go.Proofs.YtdabedknidkimaaDoor.Vt
