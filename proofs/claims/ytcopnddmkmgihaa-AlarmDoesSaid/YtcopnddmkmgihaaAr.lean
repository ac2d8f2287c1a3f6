/- AlarmDoes, plainly: a table that stands in order and one that doesn't. -/
import Derived.Test.YtcopnddmkmgihaaAre
import Derived.Test.YtcopnddmkmgihaaY1
namespace Go.Proofs.Ytcopnddmkmgihaa.Ak
open Go.RowKit Go.Proofs.YtcopnddmkmgihaaW.PrintWords Go.Proofs.YtcopnddmkmgihaaW.PrintLast Go.Proofs.YtcopnddmkmgihaaW.PrintMore Go.Proofs.YtcopnddmkmgihaaEv
set_option linter.unusedVariables false
set_option linter.unusedSimpArgs false
open Go.Proofs.Ytcopnddmkmgihaa.Y
theorem rem_flt (id : Int) : ∀ (l : List (Int × Int)), (l.map (·.1)).Nodup → rem l id = flt l id
  | [], _ => rfl
  | x :: r, h => by
    by_cases e : x.1 = id
    · subst e
      rw [flt_head h]
      unfold rem
      rw [List.findIdx_cons]
      simp [isId]
    · have hr := rem_flt id r (List.nodup_cons.1 (by simpa using h)).2
      unfold rem flt at hr ⊢
      rw [List.findIdx_cons]
      have h1 : isId id x = false := by simpa [isId] using e
      rw [h1]
      simp only [cond_false, List.eraseIdx_cons_succ]
      rw [List.filter_cons_of_pos (by simp [h1]), hr]
theorem any_iff (l : List (Int × Int)) (id : Int) : l.any (isId id) = true ↔ l.findIdx (isId id) < l.length := by
  rw [List.findIdx_lt_length, List.any_eq_true]
theorem any_perm {l m : List (Int × Int)} (hp : l.Perm m) (id : Int) : l.any (isId id) = m.any (isId id) := by
  rw [Bool.eq_iff_iff, List.any_eq_true, List.any_eq_true]
  exact ⟨fun ⟨x, h1, h2⟩ => ⟨x, hp.mem_iff.1 h1, h2⟩, fun ⟨x, h1, h2⟩ => ⟨x, hp.mem_iff.2 h1, h2⟩⟩
theorem drop_pair {l m : List (Int × Int)} (hg : Good l) (hp : l.Perm m) (id : Int) : dropE l id = anyE m id ∧ (rem l id).Perm (flt m id) := by
  refine ⟨?_, by rw [rem_flt id l hg.nd]; exact flt_perm hp id⟩
  unfold dropE anyE
  rw [← any_perm hp id]
  by_cases h : l.any (isId id) = true
  · rw [if_pos ((any_iff l id).1 h), if_pos h]
  · rw [if_neg (fun q => h ((any_iff l id).2 q)), if_neg h]
theorem set_pair {l m : List (Int × Int)} (hg : Good l) (hp : l.Perm m) (id at_ : Int) : (setL l id at_).1 = (setR m id at_).1 ∧ (setL l id at_).2.Perm (setR m id at_).2 := by
  have hd := (drop_pair hg hp id).2
  unfold setL setR
  by_cases h : l.any (isId id) = true
  · have h1 := (any_iff l id).1 h
    rw [any_perm hp id] at h
    rw [if_neg (fun q => q.1 h1), if_neg (fun q => q.1 h)]
    exact ⟨rfl, (ins_perm _ _ _).trans ((List.Perm.cons _ hd).trans (List.perm_append_singleton _ _).symm)⟩
  · have h1 : ¬ l.findIdx (isId id) < l.length := fun q => h ((any_iff l id).2 q)
    rw [any_perm hp id] at h
    rw [rem_none h1] at hd ⊢
    by_cases h64 : l.length = 64
    · rw [if_pos ⟨h1, h64⟩, if_pos ⟨h, by rw [← hd.length_eq]; exact h64⟩]
      exact ⟨rfl, hd⟩
    · rw [if_neg (fun q => h64 q.2), if_neg (fun q => h64 (by rw [hd.length_eq]; exact q.2))]
      exact ⟨rfl, (ins_perm _ _ _).trans ((List.Perm.cons _ hd).trans (List.perm_append_singleton _ _).symm)⟩
theorem same_l0 (xs : List Int) (hl : xs.length ≤ 4096) : ∀ (d : Nat) (i : Nat), i + d = xs.length → clepsydraref09_Same.l0 (d + 1) xs xs (xs.length : Int) (i : Int) = some true
  | 0, i, h => by
    unfold clepsydraref09_Same.l0
    rw [if_neg (by omega)]
  | d + 1, i, h => by
    unfold clepsydraref09_Same.l0
    rw [if_pos (by omega), if_pos (by omega), if_pos (by omega), if_pos (by omega), if_pos rfl]
    have hw : wrap64 ((i : Int) + 1) = ((i + 1 : Nat) : Int) := by unfold wrap64; omega
    rw [hw]
    exact same_l0 xs hl d (i + 1) (by omega)
theorem same_f (xs : List Int) (hl : xs.length ≤ 4096) : clepsydraref09_Same.f (xs.length + 1) xs xs = some true := by
  unfold clepsydraref09_Same.f
  rw [if_pos rfl]
  exact same_l0 xs hl xs.length 0 (by omega)
end Go.Proofs.Ytcopnddmkmgihaa.Ak
