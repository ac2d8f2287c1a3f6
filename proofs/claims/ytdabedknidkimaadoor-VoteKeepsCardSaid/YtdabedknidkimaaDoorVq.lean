/- vote, plainly: tables that are the same; the document's choice. -/
import Derived.Test.YtdabedknidkimaaDoorVp
namespace Go.Proofs.YtdabedknidkimaaDoor.Vt
open Go.RowKit Go.Proofs.YtdabedknidkimaaDoorW.PrintWords Go.Proofs.YtdabedknidkimaaDoorW.PrintLast Go.Proofs.YtdabedknidkimaaDoorW.PrintMore Go.Proofs.YtdabedknidkimaaDoor.X
set_option linter.unusedVariables false
set_option linter.unusedSimpArgs false
def eqE (x y : S37) : Bool := x.f0 == y.f0 && x.f1 == y.f1
theorem eqE_iff (x y : S37) : eqE x y = true ↔ x = y := by
  unfold eqE
  rw [Bool.and_eq_true, beq_iff_eq, beq_iff_eq]
  constructor
  · rintro ⟨h1, h2⟩
    cases x
    cases y
    dsimp only at h1 h2
    rw [h1, h2]
  · rintro rfl
    exact ⟨rfl, rfl⟩
def eqT : List S37 → List S37 → Bool
  | [], [] => true
  | x :: a, y :: b => eqE x y && eqT a b
  | _, _ => false
theorem eqT_iff : ∀ (a b : List S37), eqT a b = true ↔ a = b
  | [], [] => by simp [eqT]
  | [], _ :: _ => by simp [eqT]
  | _ :: _, [] => by simp [eqT]
  | x :: a, y :: b => by
    unfold eqT
    rw [Bool.and_eq_true, eqE_iff, eqT_iff a b]
    simp
theorem eqT_refl (a : List S37) : eqT a a = true := (eqT_iff a a).2 rfl
theorem eqT_symm (a b : List S37) : eqT a b = eqT b a := by
  rw [Bool.eq_iff_iff, eqT_iff, eqT_iff]
  exact ⟨fun h => h.symm, fun h => h.symm⟩
theorem eqT_len : ∀ {a b : List S37}, a.length ≠ b.length → eqT a b = false := fun {a b} h => by
  cases e : eqT a b with
  | false => rfl
  | true => exact absurd (congrArg List.length ((eqT_iff a b).1 e)) h
theorem rdT {l : List S37} {i : Nat} (h : i < l.length) : rd_T37 l i = l[i] := by simp [rd_T37, List.getD_eq_getElem?_getD, h]
theorem rdL {l : List (List S37)} {i : Nat} (h : i < l.length) : rd_L2 l i = l[i] := by simp [rd_L2, List.getD_eq_getElem?_getD, h]
theorem wr1 {i n : Nat} (h : i < n) (hn : n ≤ 4611686018427387904) : wrap64 ((i : Int) + 1) = ((i + 1 : Nat) : Int) := by unfold wrap64; omega
theorem tables_l0 (a b : List S37) (hl : a.length = b.length) (hn : a.length ≤ 4611686018427387904) : ∀ (d i : Nat), i + d = a.length → clepsydraref06_Tables.l0 (d + 1) a b (a.length : Int) (i : Int) = some (eqT (a.drop i) (b.drop i))
  | 0, i, h => by
    unfold clepsydraref06_Tables.l0
    rw [if_neg (by omega), List.drop_eq_nil_of_le (by omega), List.drop_eq_nil_of_le (by omega)]
    rfl
  | d + 1, i, h => by
    have ih := tables_l0 a b hl hn d (i + 1) (by omega)
    have hia : i < a.length := by omega
    have hib : i < b.length := by omega
    unfold clepsydraref06_Tables.l0
    rw [if_pos (by omega), if_pos (by omega), if_pos (by omega), if_pos (by omega), wr1 hia hn, rdT hia, rdT hib, ih, List.drop_eq_getElem_cons hia, List.drop_eq_getElem_cons hib]
    show _ = some (eqE a[i] b[i] && eqT (a.drop (i + 1)) (b.drop (i + 1)))
    by_cases h0 : a[i].f0 = b[i].f0
    · by_cases h1 : a[i].f1 = b[i].f1
      · have : eqE a[i] b[i] = true := by unfold eqE; rw [beq_iff_eq.mpr h0, beq_iff_eq.mpr h1]; rfl
        rw [this, Bool.true_and, beq_iff_eq.mpr h0, beq_iff_eq.mpr h1, if_neg (by decide)]
      · have : eqE a[i] b[i] = false := by unfold eqE; rw [beq_eq_false_iff_ne.mpr h1, Bool.and_false]
        rw [this, Bool.false_and, beq_eq_false_iff_ne.mpr h1, if_pos (by cases (a[i].f0 == b[i].f0) <;> rfl)]
    · have : eqE a[i] b[i] = false := by unfold eqE; rw [beq_eq_false_iff_ne.mpr h0, Bool.false_and]
      rw [this, Bool.false_and, beq_eq_false_iff_ne.mpr h0, if_pos (by rfl)]
theorem tables_ev (a b : List S37) (hn : a.length ≤ 4611686018427387904) : Ev (fun k => clepsydraref06_Tables.f k a b) (eqT a b) := by
  by_cases hl : a.length = b.length
  · have h := tables_l0 a b hl hn a.length 0 (by omega)
    refine Ev.of (k := a.length + 1) (fun k => ?_) ?_
    · unfold clepsydraref06_Tables.f
      rw [if_pos (by omega), if_pos (by omega)]
      exact clepsydraref06_Tables.mono_l k _ _ _ _
    · show clepsydraref06_Tables.f (a.length + 1) a b = _
      unfold clepsydraref06_Tables.f
      rw [if_pos (by omega)]
      exact h
  · rw [eqT_len hl]
    refine Ev.congr (fun k => ?_) (Ev.now false)
    unfold clepsydraref06_Tables.f
    rw [if_neg (by omega)]
theorem good_ev (l : List S37) (hn : l.length ≤ 4611686018427387904) : Ev (fun k => clepsydraref18_Good.f k l) (gd l) := by
  obtain ⟨k, h⟩ := ref_good l hn
  exact Ev.of (fun k => clepsydraref18_Good.mono l k) h
/-- How many tables are the same as one. -/
def cntT (ts : List (List S37)) (t : List S37) : Nat := (ts.filter (fun u => eqT t u)).length
theorem cntT_le (ts : List (List S37)) (t : List S37) : cntT ts t ≤ ts.length := List.length_filter_le _ _
/-- The document's choice: the place of the first good table that more than all ahead, and more than F, tell. -/
def adI (ts : List (List S37)) : Nat → Nat → Int → Int → Int
  | 0, _, best, _ => best
  | d + 1, i, best, most => if gd (rd_L2 ts i) = true ∧ (cntT ts (rd_L2 ts i) : Int) > most then adI ts d (i + 1) i (cntT ts (rd_L2 ts i)) else adI ts d (i + 1) best most
def small (ts : List (List S37)) : Prop := ts.length ≤ 4096 ∧ ∀ t ∈ ts, t.length ≤ 4611686018427387904
theorem l0_end (ts : List (List S37)) (best most : Int) (i : Nat) (h : ts.length ≤ i) (k : Nat) : clepsydraref19_Adopt.l0 (k + 1) ts best most ts (ts.length : Int) (i : Int) = some best := by
  conv => lhs; unfold clepsydraref19_Adopt.l0
  rw [if_neg (by omega)]
theorem l0_step (ts : List (List S37)) (best most : Int) (i : Nat) (h : i < ts.length) (hs : ts.length ≤ 4096) (k : Nat) : clepsydraref19_Adopt.l0 (k + 1) ts best most ts (ts.length : Int) (i : Int) =
    (clepsydraref18_Good.f k ts[i]).bind fun t => if t = true then clepsydraref19_Adopt.l1 k ts best most i ts[i] 0 ts (ts.length : Int) (i : Int) ts (ts.length : Int) 0 else clepsydraref19_Adopt.l0 k ts best most ts (ts.length : Int) ((i + 1 : Nat) : Int) := by
  have hw := wr1 h (Nat.le_trans hs (by decide))
  conv => lhs; unfold clepsydraref19_Adopt.l0
  rw [if_pos (by omega), if_pos (by omega), if_pos (by omega), hw, rdL h]
theorem l1_end (ts : List (List S37)) (best most : Int) (i : Nat) (t : List S37) (c j : Nat) (hi : i < ts.length) (hs : ts.length ≤ 4096) (h : ts.length ≤ j) (k : Nat) :
    clepsydraref19_Adopt.l1 (k + 1) ts best most i t c ts (ts.length : Int) (i : Int) ts (ts.length : Int) (j : Int) = if (c : Int) > most then clepsydraref19_Adopt.l0 k ts i c ts (ts.length : Int) ((i + 1 : Nat) : Int) else clepsydraref19_Adopt.l0 k ts best most ts (ts.length : Int) ((i + 1 : Nat) : Int) := by
  have hw := wr1 hi (Nat.le_trans hs (by decide))
  conv => lhs; unfold clepsydraref19_Adopt.l1
  rw [if_neg (by omega), hw]
theorem l1_step (ts : List (List S37)) (best most : Int) (i : Nat) (t : List S37) (c j : Nat) (hs : ts.length ≤ 4096) (hc : c ≤ 4096) (h : j < ts.length) (k : Nat) :
    clepsydraref19_Adopt.l1 (k + 1) ts best most i t c ts (ts.length : Int) (i : Int) ts (ts.length : Int) (j : Int) =
      (clepsydraref06_Tables.f k t ts[j]).bind fun b => if b = true then clepsydraref19_Adopt.l1 k ts best most i t ((c + 1 : Nat) : Int) ts (ts.length : Int) (i : Int) ts (ts.length : Int) ((j + 1 : Nat) : Int) else clepsydraref19_Adopt.l1 k ts best most i t c ts (ts.length : Int) (i : Int) ts (ts.length : Int) ((j + 1 : Nat) : Int) := by
  have hw := wr1 h (Nat.le_trans hs (by decide))
  have hwc := wr1 (i := c) (n := 4097) (by omega) (by decide)
  conv => lhs; unfold clepsydraref19_Adopt.l1
  rw [if_pos (by omega), if_pos (by omega), if_pos (by omega), hw, hwc, rdL h]
theorem inner_ev (ts : List (List S37)) (hs : ts.length ≤ 4096) (best most : Int) (i : Nat) (hi : i < ts.length) (t : List S37) (ht : t.length ≤ 4611686018427387904) (R1 R2 : Int) (h1 : Ev (fun k => clepsydraref19_Adopt.l0 k ts i (cntT ts t) ts (ts.length : Int) ((i + 1 : Nat) : Int)) R1)
    (h2 : Ev (fun k => clepsydraref19_Adopt.l0 k ts best most ts (ts.length : Int) ((i + 1 : Nat) : Int)) R2) : ∀ (e j c : Nat), j + e = ts.length → c + ((ts.drop j).filter (fun u => eqT t u)).length = cntT ts t → c ≤ j →
    Ev (fun k => clepsydraref19_Adopt.l1 k ts best most i t c ts (ts.length : Int) (i : Int) ts (ts.length : Int) (j : Int)) (if (cntT ts t : Int) > most then R1 else R2)
  | 0, j, c, hj, hc, hcj => by
    rw [List.drop_eq_nil_of_le (by omega)] at hc
    have hc' : c = cntT ts t := by simpa using hc
    refine Ev.step (fun k => l1_end ts best most i t c j hi hs (by omega) k) ?_
    rw [hc']
    by_cases hm : (cntT ts t : Int) > most
    · rw [if_pos hm]
      exact Ev.congr (fun k => by rw [if_pos hm]) h1
    · rw [if_neg hm]
      exact Ev.congr (fun k => by rw [if_neg hm]) h2
  | e + 1, j, c, hj, hc, hcj => by
    have hjl : j < ts.length := by omega
    have ih := inner_ev ts hs best most i hi t ht R1 R2 h1 h2 e (j + 1)
    rw [List.drop_eq_getElem_cons hjl] at hc
    refine Ev.step (fun k => l1_step ts best most i t c j hs (by omega) hjl k) ?_
    refine Ev.bind (tables_ev _ _ ht) ?_
    cases he : eqT t ts[j] with
    | true =>
      rw [List.filter_cons_of_pos he, List.length_cons] at hc
      replace hc : c + (((ts.drop (j + 1)).filter (fun u => eqT t u)).length + 1) = cntT ts t := hc
      exact Ev.congr (fun k => by rw [if_pos rfl]) (ih (c + 1) (by omega) (by omega) (by omega))
    | false =>
      rw [List.filter_cons_of_neg (by rw [he]; decide)] at hc
      exact Ev.congr (fun k => by rw [if_neg (by decide)]) (ih c (by omega) hc (by omega))
theorem adopt_ev (ts : List (List S37)) (hs : small ts) : ∀ (d i : Nat) (best most : Int), i + d = ts.length → Ev (fun k => clepsydraref19_Adopt.l0 k ts best most ts (ts.length : Int) (i : Int)) (adI ts d i best most)
  | 0, i, best, most, h => Ev.step (f := fun _ => some best) (fun k => l0_end ts best most i (by omega) k) (Ev.now _)
  | d + 1, i, best, most, h => by
    have hil : i < ts.length := by omega
    have hlt : ts[i].length ≤ 4611686018427387904 := hs.2 _ (List.getElem_mem hil)
    have ih1 := adopt_ev ts hs d (i + 1) best most (by omega)
    have ih2 := adopt_ev ts hs d (i + 1) i (cntT ts ts[i]) (by omega)
    refine Ev.step (fun k => l0_step ts best most i hil hs.1 k) ?_
    refine Ev.bind (good_ev _ hlt) ?_
    show Ev _ (if gd (rd_L2 ts i) = true ∧ (cntT ts (rd_L2 ts i) : Int) > most then _ else _)
    rw [rdL hil]
    cases hg : gd ts[i] with
    | false =>
      rw [if_neg (by rintro ⟨h, _⟩; cases h)]
      exact Ev.congr (fun k => by rw [if_neg (by decide)]) ih1
    | true =>
      have key := inner_ev ts hs.1 best most i hil ts[i] hlt _ _ ih2 ih1 ts.length 0 0 (by omega) (by simp [cntT]) (by omega)
      refine Ev.congr (fun k => by rw [if_pos rfl]) ?_
      by_cases hm : (cntT ts ts[i] : Int) > most
      · rw [if_pos ⟨rfl, hm⟩]
        rw [if_pos hm] at key
        exact key
      · rw [if_neg (fun q => hm q.2)]
        rw [if_neg hm] at key
        exact key
theorem adopt_f (ts : List (List S37)) (hs : small ts) (a0 F a2 a3 a4 a5 a6 a7 a8 a9 a10 a11 : Int) : ∃ k, clepsydraref19_Adopt.f k a0 F a2 a3 a4 a5 a6 a7 a8 a9 a10 a11 ts = some (adI ts ts.length 0 (-1) F) := by
  have := (adopt_ev ts hs ts.length 0 (-1) F (by omega)).rounds
  obtain ⟨k, h⟩ := this
  exact ⟨k, h⟩
/-- What is too great is let by. -/
def grt (own : List S37) (ts : List (List S37)) : Bool := decide (own.length > 256) || decide (ts.length > 40) || ts.any (fun t => decide (t.length > 256))
theorem great_l0 (ts : List (List S37)) (hs : ts.length ≤ 4096) : ∀ (d i : Nat), i + d = ts.length → Ev (fun k => clepsydralaw19_great.l0 k ts (ts.length : Int) (i : Int)) ((ts.drop i).any (fun t => decide (t.length > 256)))
  | 0, i, h => by
    refine Ev.step (f := fun _ => some false) (fun k => ?_) ?_
    · show clepsydralaw19_great.l0 (k + 1) ts (ts.length : Int) (i : Int) = _
      unfold clepsydralaw19_great.l0
      rw [if_neg (by omega)]
    · rw [List.drop_eq_nil_of_le (by omega)]
      exact Ev.now _
  | d + 1, i, h => by
    have hil : i < ts.length := by omega
    have hw := wr1 hil (Nat.le_trans hs (by decide))
    have ih := great_l0 ts hs d (i + 1) (by omega)
    rw [List.drop_eq_getElem_cons hil, List.any_cons]
    refine Ev.step (f := fun k => if (ts[i].length : Int) > 256 then some true else clepsydralaw19_great.l0 k ts (ts.length : Int) ((i + 1 : Nat) : Int)) (fun k => ?_) ?_
    · show clepsydralaw19_great.l0 (k + 1) ts (ts.length : Int) (i : Int) = _
      conv => lhs; unfold clepsydralaw19_great.l0
      rw [if_pos (by omega), if_pos (by omega), if_pos (by omega), hw, rdL hil]
    · by_cases hg : ts[i].length > 256
      · rw [decide_eq_true hg, Bool.true_or]
        exact Ev.congr (fun k => by rw [if_pos (by omega)]) (Ev.now _)
      · rw [decide_eq_false hg, Bool.false_or]
        exact Ev.congr (fun k => by rw [if_neg (by omega)]) ih
theorem great_f (own : List S37) (ts : List (List S37)) : ∃ k, clepsydralaw19_great.f k own ts = some (grt own ts) := by
  have j0 : ∀ k b, clepsydralaw19_great.j0 (k + 1) ts b = if b = true then some true else clepsydralaw19_great.l0 k ts (ts.length : Int) 0 := fun k b => by rw [clepsydralaw19_great.j0]
  unfold grt
  by_cases h1 : own.length > 256
  · refine ⟨1, ?_⟩
    unfold clepsydralaw19_great.f
    rw [if_pos (by omega), j0 0, if_pos rfl, decide_eq_true h1, Bool.true_or, Bool.true_or]
  · rw [decide_eq_false h1, Bool.false_or]
    by_cases h2 : ts.length > 40
    · refine ⟨1, ?_⟩
      unfold clepsydralaw19_great.f
      rw [if_neg (by omega), decide_eq_true (by omega), j0 0, if_pos rfl, decide_eq_true h2, Bool.true_or]
    · rw [decide_eq_false h2, Bool.false_or]
      obtain ⟨k, h⟩ := (great_l0 ts (by omega) ts.length 0 (by omega)).rounds
      refine ⟨k + 1, ?_⟩
      unfold clepsydralaw19_great.f
      rw [if_neg (by omega), decide_eq_false (by omega), j0 k, if_neg (by decide)]
      exact h
end Go.Proofs.YtdabedknidkimaaDoor.Vt
