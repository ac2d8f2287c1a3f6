/- alarm: alive; two tables know nothing of one another. -/
import Derived.Test.YtcopnddmkmgihaaAv
namespace Go.Proofs.Ytcopnddmkmgihaa.Ak
open Go.RowKit Go.Proofs.YtcopnddmkmgihaaW.PrintWords Go.Proofs.YtcopnddmkmgihaaW.PrintLast Go.Proofs.YtcopnddmkmgihaaW.PrintMore Go.Proofs.YtcopnddmkmgihaaEv
set_option linter.unusedVariables false
set_option linter.unusedSimpArgs false
theorem set_to {w0 w : World} {t : Nat} {l : List (Int × Int)} (h : St w0 w t l) (id at_ r : Int) (l' : List (Int × Int)) (e1 : setL l id at_ = (r, l')) : Calls Try.prog 13 #[.pointer (some ⟨t, 0, none⟩), .int .i64 id, .int .i64 at_] w fun e w' => e = .returned (.int .i64 r) ∧ Hid (St w0 w' t l') ∧ Hid (Oth w w') := by
  refine (set_st h id at_).mono ?_
  rintro e w' ⟨rfl, h1, h2⟩
  rw [e1] at h1 ⊢
  exact ⟨rfl, Lib.hid h1, Lib.hid h2⟩
theorem due_to {w0 w : World} {t : Nat} {l : List (Int × Int)} (h : St w0 w t l) (now : Int) (ys rest : List (Int × Int)) (n : Nat) (hn : ys.length = n) (e1 : l.takeWhile (due now) = ys) (e2 : l.dropWhile (due now) = rest) :
    Calls Try.prog 14 #[.pointer (some ⟨t, 0, none⟩), .int .i64 now] w fun e w' => ∃ A c, e = .returned (.slice A n c) ∧ Hid (∀ j (hj : j < ys.length), ∃ g, A = some ⟨g, 0, none⟩ ∧ w.heap.size ≤ g ∧ w'.cell? ⟨g, j, none⟩ = some (.int .i64 ys[j].1)) ∧ Hid (St w0 w' t rest) ∧ Hid (Oth w w') := by
  refine (due_st h now).mono ?_
  rintro e w' ⟨u, rfl, hr, h1, h2⟩
  rw [e1] at hr
  rw [e2] at h1
  rw [show ys.map (fun x => Value.int .i64 x.1) = (ys.map (·.1)).map (.int .i64) by rw [List.map_map]; rfl] at hr
  obtain ⟨hl, A, c, rfl, hc⟩ := row_ints hr
  refine ⟨A, c, by rw [hn], Lib.hid (fun j hj => ?_), Lib.hid h1, Lib.hid h2⟩
  obtain ⟨g, hg, hcell⟩ := hc j (by rw [List.length_map]; exact hj)
  rw [List.getElem_map] at hcell
  exact ⟨g, hg, (hr.lt g (by rw [hg]; rfl)).1, hcell⟩
theorem new_to (w0 w : World) (hb : Below w0.heap.size w0 w) : Calls Try.prog 12 #[] w fun e w' => ∃ t, e = .returned (.pointer (some ⟨t, 0, none⟩)) ∧ Hid (St w0 w' t []) ∧ Hid (Below w.heap.size w w') := by
  refine (new_st w0 w hb).mono ?_
  rintro e w' ⟨t, rfl, h1, h2⟩
  exact ⟨t, rfl, Lib.hid h1, Lib.hid h2⟩
theorem next_to {w0 w : World} {t : Nat} {l : List (Int × Int)} (h : St w0 w t l) (n : Int) (b : Bool) (e1 : next l = (n, b)) : Calls Try.prog 16 #[.pointer (some ⟨t, 0, none⟩)] w fun e w' => e = .returned (.tuple #[.int .i64 n, .bool b]) ∧ w' = w := by
  have := next_st h
  rw [e1] at this
  exact this
theorem len_to {w0 w : World} {t : Nat} {l : List (Int × Int)} (h : St w0 w t l) (n : Int) (e1 : (l.length : Int) = n) : Calls Try.prog 15 #[.pointer (some ⟨t, 0, none⟩)] w fun e w' => e = .returned (.int .i64 n) ∧ w' = w := by
  have := len_st h
  rw [e1] at this
  exact this
set_option maxRecDepth 100000 in
set_option maxHeartbeats 8000000 in
theorem alive_calls (w : World) : Calls Try.prog 11 #[] w fun e w' => e = .returned (.bool true) ∧ Below w.heap.size w w' := by
  go_enter Try.func11, Try.ntmps11
  go_wp2_with (first
    | (go_at_call 12; (with_reducible refine (new_to w _ (Below.refl _ _)).mono ?_); rintro e w1 ⟨t, rfl, S0, B0⟩)
    | (go_at_call 13; (with_reducible refine (set_to S0.out 1 5 0 [(1, 5)] (by decide)).mono ?_); rintro e w2 ⟨rfl, S1, O1⟩)
    | (go_at_call 13; (with_reducible refine (set_to S1.out 2 3 0 [(2, 3), (1, 5)] (by decide)).mono ?_); rintro e w3 ⟨rfl, S2, O2⟩)
    | (go_at_call 13; (with_reducible refine (set_to S2.out 1 9 0 [(2, 3), (1, 9)] (by decide)).mono ?_); rintro e w4 ⟨rfl, S3, O3⟩)
    | (go_at_call 14; (with_reducible refine (due_to S3.out 5 [(2, 3)] [(1, 9)] 1 rfl (by decide) (by decide)).mono ?_); rintro e w5 ⟨A, c, rfl, HC, S4, O4⟩; obtain ⟨g, rfl, _, hc0⟩ := HC.out 0 (by decide))
    | (go_at_call 16; (with_reducible refine (next_to S4.out 9 true rfl).mono ?_); rintro e w6 ⟨rfl, rfl⟩))
  go_ret
  exact ⟨rfl, S4.out.below⟩
end Go.Proofs.Ytcopnddmkmgihaa.Ak
