/- vote: what the laws on Adopt share: the program's choice is the document's. -/
import Derived.Test.YtdabedknidkimaaDoorVoteKeys
namespace Go.Proofs.YtdabedknidkimaaDoor.Vt
open Go.RowKit Go.Proofs.YtdabedknidkimaaDoorW.PrintWords Go.Proofs.YtdabedknidkimaaDoorW.PrintLast Go.Proofs.YtdabedknidkimaaDoorW.PrintMore Go.Proofs.YtdabedknidkimaaDoorEv Go.Proofs.YtdabedknidkimaaDoor.X
set_option linter.unusedVariables false
set_option linter.unusedSimpArgs false
theorem cnt_keys (ts : List (List S37)) (t : List S37) (hg : gd t = true) : Aps.cnt (keysL ts) (keyB t) = cntT ts t := by
  unfold Aps.cnt keysL cntT
  rw [List.countP_map, List.countP_filter, List.countP_eq_length_filter]
  congr 1
  apply List.filter_congr
  intro u _
  simp only [Function.comp]
  rw [Bool.eq_iff_iff, Bool.and_eq_true, decide_eq_true_iff, keyB_iff, eqT_iff]
  constructor
  · rintro ⟨h, _⟩; exact h.symm
  · intro h; exact ⟨h.symm, h ▸ hg⟩
theorem keys_append (a b : List (List S37)) : keysL (a ++ b) = keysL a ++ keysL b := by simp [keysL]
/-- The two choices go side by side. -/
def Side (F : Int) (ts : List (List S37)) (best most : Int) (p : Int × Int) : Prop :=
  (best < 0 ∧ most = F ∧ p = (-1, 0)) ∨ (0 ≤ best ∧ 0 ≤ p.1 ∧ most = p.2 ∧ F < most ∧ ∃ h : best.toNat < ts.length, (keysL ts)[p.1.toNat]? = some (keyB ts[best.toNat]) ∧ most = cntT ts ts[best.toNat])
theorem side_all (F : Int) (hF : 0 ≤ F) (ts : List (List S37)) : ∀ (d i : Nat) (best most : Int), i + d = ts.length → Side F ts best most (Aps.pick F (keysL ts) (keysL (ts.take i)).length) →
    ∃ most', Side F ts (adI ts d i best most) most' (Aps.pick F (keysL ts) (keysL ts).length)
  | 0, i, best, most, hi, h => ⟨most, by rw [List.take_of_length_le (by omega)] at h; exact h⟩
  | d + 1, i, best, most, hi, h => by
    have hil : i < ts.length := by omega
    have ih := side_all F hF ts d (i + 1)
    have htk : ts.take (i + 1) = ts.take i ++ [ts[i]] := List.take_succ_eq_append_getElem hil
    rw [htk] at ih
    have hsplit : ts = ts.take i ++ ts[i] :: ts.drop (i + 1) := by rw [← List.drop_eq_getElem_cons hil, List.take_append_drop]
    show ∃ m, Side F ts (if gd (rd_L2 ts i) = true ∧ (cntT ts (rd_L2 ts i) : Int) > most then adI ts d (i + 1) i (cntT ts (rd_L2 ts i)) else adI ts d (i + 1) best most) m _
    rw [rdL hil]
    cases hg : gd ts[i] with
    | false =>
      rw [if_neg (by rintro ⟨h, _⟩; cases h)]
      refine ih best most (by omega) ?_
      rw [keys_snoc, if_neg (by rw [hg]; decide)]
      exact h
    | true =>
      rw [keys_snoc, if_pos hg, List.length_append, List.length_singleton] at ih
      have hk : (keysL ts)[(keysL (ts.take i)).length]? = some (keyB ts[i]) := by
        have hks : keysL ts = keysL (ts.take i) ++ keysL (ts[i] :: ts.drop (i + 1)) := (congrArg keysL hsplit).trans (keys_append _ _)
        rw [hks, List.getElem?_append_right (Nat.le_refl _), Nat.sub_self]
        unfold keysL
        rw [List.filter_cons_of_pos hg]
        rfl
      have hc := cnt_keys ts ts[i] hg
      rw [Aps.pick_succ, hk] at ih
      simp only [Option.getD_some, hc] at ih
      generalize hm : Aps.pick F (keysL ts) (keysL (ts.take i)).length = p at h ih
      have hr := Aps.pick_range F (keysL ts) (keysL (ts.take i)).length
      rw [hm] at hr
      by_cases hgt : (cntT ts ts[i] : Int) > most
      · rw [if_pos ⟨rfl, hgt⟩]
        refine ih i (cntT ts ts[i]) (by omega) ?_
        have hFc : F < (cntT ts ts[i] : Int) := by
          rcases h with ⟨_, h, _⟩ | ⟨_, _, _, h, _⟩ <;> omega
        have hpc : p.2 < (cntT ts ts[i] : Int) := by
          rcases h with ⟨_, h, h2⟩ | ⟨_, _, h, _, _⟩
          · rw [h2]; show (0 : Int) < _; omega
          · omega
        rw [if_pos ⟨hFc, hpc⟩]
        exact .inr ⟨by omega, by show (0 : Int) ≤ ((keysL (ts.take i)).length : Int); omega, rfl, hFc, by simpa using hil, by simpa using hk, by simp⟩
      · rw [if_neg (fun q => hgt q.2)]
        refine ih best most (by omega) ?_
        have : ¬ (F < (cntT ts ts[i] : Int) ∧ p.2 < (cntT ts ts[i] : Int)) := by
          rcases h with ⟨_, h, h2⟩ | ⟨_, _, h, _, _⟩
          · omega
          · omega
        rw [if_neg this]
        exact h
/-- What Adopt answers is what the document says. -/
theorem adopt_doc (F : Int) (hF : 0 ≤ F) (own : List S37) (ts : List (List S37)) :
    (adI ts ts.length 0 (-1) F < 0 ∧ adoptP F own ts = (own, false)) ∨ (∃ (a : Nat) (h : a < ts.length), adI ts ts.length 0 (-1) F = a ∧ adoptP F own ts = (ts[a], true)) := by
  obtain ⟨m, h⟩ := side_all F hF ts ts.length 0 (-1) F (by omega) (.inl ⟨by decide, rfl, rfl⟩)
  rcases h with ⟨h1, _, h3⟩ | ⟨h1, h2, _, _, h5, h6, _⟩
  · refine .inl ⟨h1, ?_⟩
    unfold adoptP agr Aps.agreed
    rw [h3]
    rfl
  · refine .inr ⟨_, h5, by omega, ?_⟩
    have ha : agr F ts = (keyB ts[(adI ts ts.length 0 (-1) F).toNat], true) := by
      unfold agr Aps.agreed
      rw [if_neg (by omega), h6]
      rfl
    unfold adoptP
    rw [ha, if_pos rfl]
    have hx : idxK ts (keyB ts[(adI ts ts.length 0 (-1) F).toNat]) < ts.length := by
      unfold idxK
      rw [List.findIdx_lt_length]
      exact ⟨_, List.getElem_mem h5, decide_eq_true rfl⟩
    have he := List.findIdx_getElem (p := fun t => decide (keyB t = keyB ts[(adI ts ts.length 0 (-1) F).toNat])) (w := hx)
    have he2 := (keyB_iff _ _).1 (of_decide_eq_true he)
    rw [List.getD_eq_getElem?_getD, List.getElem?_eq_getElem hx, Option.getD_some]
    exact congrArg (fun z => (z, true)) he2
theorem adopt_good {F : Int} {own : List S37} {ts : List (List S37)} {l : List S37} (h : adoptP F own ts = (l, true)) : gd l = true ∧ F < (cntT ts l : Int) := by
  unfold adoptP at h
  by_cases hb : (agr F ts).2 = true
  · rw [if_pos hb] at h
    have hin := agr_in hb
    have e := (Prod.mk.inj h).1
    rw [List.getD_eq_getElem?_getD, List.getElem?_eq_getElem hin, Option.getD_some] at e
    have hk : keyB l = (agr F ts).1 := by
      rw [← e]
      exact of_decide_eq_true (List.findIdx_getElem (p := fun t => decide (keyB t = (agr F ts).1)) (w := hin))
    have hag : Aps.agreed F (keysL ts) = (keyB l, true) := by
      rw [hk]
      show agr F ts = _
      rw [← hb]
    have hc := Aps.agreed_true hag
    have hm : (agr F ts).1 ∈ keysL ts := by
      have : Aps.agreed F (keysL ts) = ((agr F ts).1, (agr F ts).2) := rfl
      unfold Aps.agreed at this
      split at this
      · rw [hb] at this; exact absurd (Prod.mk.inj this).2 (by decide)
      · rename_i hn
        obtain ⟨h1, _, _⟩ := (Aps.pick_best F (keysL ts) (keysL ts).length).some (by omega)
        rw [← (Prod.mk.inj this).1, List.getElem?_eq_getElem h1]
        exact List.getElem_mem h1
    unfold keysL at hm
    obtain ⟨t, ht, e2⟩ := List.mem_map.1 hm
    have hg := (List.mem_filter.1 ht).2
    have : t = l := (keyB_iff _ _).1 (e2.trans hk.symm)
    subst this
    exact ⟨hg, by rw [← cnt_keys ts t hg]; exact hc⟩
  · rw [if_neg hb] at h
    cases h
theorem adopt_own {F : Int} {own : List S37} {ts : List (List S37)} {l : List S37} (h : adoptP F own ts = (l, false)) : l = own := by
  unfold adoptP at h
  split at h
  · cases h
  · exact (Prod.mk.inj h).1.symm
theorem adopt_some {F : Int} (hF : 0 ≤ F) {own : List S37} {ts : List (List S37)} {r : List S37} (hg : gd r = true) (h : F < (cntT ts r : Int)) : (adoptP F own ts).2 = true := by
  have ha : (agr F ts).2 = true := by
    cases hb : agr F ts with
    | mk x b =>
      cases b with
      | true => rfl
      | false =>
        have := (Aps.agreed_false hF hb).2 (keyB r)
        rw [cnt_keys ts r hg] at this
        omega
  unfold adoptP
  rw [if_pos ha]
theorem refadopt_to (a0 F a2 a3 a4 a5 a6 a7 a8 a9 a10 a11 : Int) (A1 : Option Addr) (c1 : Nat) (ts : List (List S37)) (n1 : Nat) (hn1 : ts.length = n1) (w : World) (hr1 : Kd.C (Kd.slice 37 k37) w A1 ts.length ts) (hc1 : ts.length ≤ c1) (hs : small ts) (z : Int) (hz : adI ts ts.length 0 (-1) F = z) :
    Calls Tryd.prog 14 #[.agg #[.int .i64 a0, .int .i64 F, .int .i64 a2, .int .i64 a3, .int .i64 a4, .int .i64 a5, .int .i64 a6, .int .i64 a7, .int .i64 a8, .int .i64 a9, .int .i64 a10, .int .i64 a11], .slice A1 n1 c1] w fun e w' => e = .returned (.int .i64 z) ∧ Hid (Below w.heap.size w w') := by
  subst hn1
  obtain ⟨k, hk⟩ := adopt_f ts hs a0 F a2 a3 a4 a5 a6 a7 a8 a9 a10 a11
  rw [hz] at hk
  refine (clepsydraref19_Adopt.calls k a0 F a2 a3 a4 a5 a6 a7 a8 a9 a10 a11 A1 c1 ts z w hr1 hc1 hk).mono ?_
  rintro e w' ⟨rfl, h⟩
  exact ⟨rfl, Lib.hid h⟩
theorem good18_to (A : Option Addr) (c : Nat) (l : List S37) (n : Nat) (hn : l.length = n) (w : World) (hr : Kd.C k37 w A l.length l) (hc : l.length ≤ c) (hl : l.length ≤ 4611686018427387904) (b : Bool) (hb : gd l = b) :
    Calls Tryd.prog 15 #[.slice A n c] w fun e w' => e = .returned (.bool b) ∧ Hid (Below w.heap.size w w') := by
  subst hn
  obtain ⟨k, hk⟩ := (good_ev l hl).rounds
  rw [hb] at hk
  refine (clepsydraref18_Good.calls k A c l b w hr hc hk).mono ?_
  rintro e w' ⟨rfl, h⟩
  exact ⟨rfl, Lib.hid h⟩
theorem tables_to' (A : Option Addr) (c : Nat) (a : List S37) (n : Nat) (hn : a.length = n) (B : Option Addr) (d : Nat) (b : List S37) (m : Nat) (hm : b.length = m) (w : World) (h0 : Kd.C k37 w A a.length a) (h1 : a.length ≤ c) (h2 : Kd.C k37 w B b.length b) (h3 : b.length ≤ d) (hl : a.length ≤ 4611686018427387904) (r : Bool) (hr : eqT a b = r) :
    Calls Tryd.prog 12 #[.slice A n c, .slice B m d] w fun e w' => e = .returned (.bool r) ∧ Hid (Below w.heap.size w w') := by
  subst hn hm
  exact tables_to A c a B d b w h0 h1 h2 h3 hl r hr
/-- What is known of a row of tables that came in. -/
abbrev WfL (l1 : List (List S37)) : Prop := l1.length ≤ maxLen ∧ l1.length * 24 ≤ 140737488351232 ∧ ∀ x0_ ∈ l1, WfT x0_
theorem okL {own : List S37} {ts : List (List S37)} (h : grt own ts = false) (hw : WfL ts) : ∀ t ∈ ts, okT t := fun t ht => ⟨by have := (grt_own h).2.2 t ht; omega, (hw.2.2 t ht).ok⟩
theorem small_of {own : List S37} {ts : List (List S37)} (h : grt own ts = false) : small ts := ⟨by have := (grt_own h).2.1; omega, fun t ht => by have := (grt_own h).2.2 t ht; omega⟩
end Go.Proofs.YtdabedknidkimaaDoor.Vt
