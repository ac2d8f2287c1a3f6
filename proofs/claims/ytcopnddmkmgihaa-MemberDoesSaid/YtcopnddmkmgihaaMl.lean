/- member: what the laws share: a table of the law's own; alive. -/
import Derived.Test.YtcopnddmkmgihaaMq
namespace Go.Proofs.Ytcopnddmkmgihaa.Mb
open Go.RowKit Go.Maps Go.Sort Go.Shelf Go.ChangeMaps Go.MapKept Go.Proofs.YtcopnddmkmgihaaW.PrintWords Go.Proofs.YtcopnddmkmgihaaW.PrintLast Go.Proofs.YtcopnddmkmgihaaW.PrintMore Go.Proofs.YtcopnddmkmgihaaEv Go.Proofs.YtcopnddmkmgihaaRx
set_option linter.unusedVariables false
set_option linter.unusedSimpArgs false
/-- A table of the law's own. -/
structure St (w0 w : World) (t b : Nat) (f : FT) : Prop where
  tab : Tab w t b f
  good : GoodF f
  below : Below w0.heap.size w0 w
  new : w0.heap.size ≤ t ∧ w0.heap.size ≤ b
theorem St.keep {w0 w w1 : World} {t b : Nat} {f : FT} (h : St w0 w t b f) (hb : Below w.heap.size w w1) : St w0 w1 t b f := ⟨h.tab.below hb, h.good, h.below.trans (hb.mono h.below.size), h.new⟩
theorem St.after {w0 w w1 : World} {t b : Nat} {f f' : FT} (h : St w0 w t b f) (ht : Tab w1 t b f') (hg : GoodF f') (hw : w.grownBy w1 (some b)) : St w0 w1 t b f' :=
  ⟨ht, hg, h.below.grown hw h.below.size (fun k e => by cases e; exact h.new.2), h.new⟩
theorem hear_to {w0 w : World} {t b : Nat} {f : FT} (h : St w0 w t b f) (who r : Int) (f' : FT) (hr : hearF f who = (r, f')) :
    Calls Try.prog 25 #[.pointer (some ⟨t, 0, none⟩), .int .i64 who] w fun e w' => e = .returned (.int .i64 r) ∧ Hid (St w0 w' t b f') ∧ Hid (w.grownBy w' (some b)) := by
  refine (Hear_calls w t b f h.tab who r f' hr).mono ?_
  rintro e w' ⟨rfl, h1, h2⟩
  have hg := h.good.hear who
  rw [hr] at hg
  exact ⟨rfl, Lib.hid (h.after h1.out hg h2.out), h2⟩
theorem drop_to {w0 w : World} {t b : Nat} {f : FT} (h : St w0 w t b f) (who : Int) (hw : -9223372036854775808 ≤ who ∧ who ≤ 9223372036854775807) (f' : FT) (hf : dropF f who = f') :
    Calls Try.prog 29 #[.pointer (some ⟨t, 0, none⟩), .int .i64 who] w fun e w' => e = .returned (.tuple #[]) ∧ Hid (St w0 w' t b f') ∧ Hid (w.grownBy w' (some b)) := by
  subst hf
  refine (Drop_calls w t b f h.tab who hw).mono ?_
  rintro e w' ⟨rfl, h1, h2⟩
  exact ⟨rfl, Lib.hid (h.after h1.out (h.good.drop who) h2.out), h2⟩
theorem own_shape {w : World} {base n : Nat} {e : TypeId} {size : Nat} {v : Value} {xs : List Value} (h : w.ownsRow base e size v n xs) : ∃ A c, v = .slice A n c := by
  rcases h.2 with ⟨rfl, rfl⟩ | ⟨g, cap, cur, rfl, _⟩
  · exact ⟨_, _, rfl⟩
  · exact ⟨_, _, rfl⟩
theorem tick_to {w0 w : World} {t b : Nat} {f : FT} (h : St w0 w t b f) (p : Int) (f' : FT) (hf : tickF p f = f') (l : List Int) (hl : goneF p f = l) (m : Nat) (hm : l.length = m) :
    Calls Try.prog 27 #[.pointer (some ⟨t, 0, none⟩), .int .i64 p] w fun e w' => ∃ A c, e = .returned (.slice A m c) ∧ Hid (w'.ownsRow w.heap.size 3 1 (.slice A m c) m (l.map (Value.int .i64))) ∧ Hid (St w0 w' t b f') ∧ Hid (w.grownBy w' (some b)) := by
  subst hf hl hm
  refine (Tick_calls w t b f h.tab h.good p).mono ?_
  rintro e w' ⟨v, rfl, h0, h1, h2⟩
  obtain ⟨A, c, rfl⟩ := own_shape h0.out
  exact ⟨A, c, rfl, h0, Lib.hid (h.after h1.out h.good.tick h2.out), h2⟩
theorem near_to {w0 w : World} {t b : Nat} {f : FT} (h : St w0 w t b f) (l : List Int) (hl : nums f = l) (m : Nat) (hm : l.length = m) :
    Calls Try.prog 30 #[.pointer (some ⟨t, 0, none⟩)] w fun e w' => ∃ A c, e = .returned (.slice A m c) ∧ Hid (w'.ownsRow w.heap.size 3 1 (.slice A m c) m (l.map (Value.int .i64))) ∧ Hid (St w0 w' t b f) ∧ Hid (Below w.heap.size w w') := by
  subst hl hm
  refine (Near_calls w t b f h.tab).mono ?_
  rintro e w' ⟨v, rfl, h0, h1⟩
  obtain ⟨A, c, rfl⟩ := own_shape h0.out
  exact ⟨A, c, rfl, h0, Lib.hid (h.keep h1.out), h1⟩
theorem age_to {w0 w : World} {t b : Nat} {f : FT} (h : St w0 w t b f) (who : Int) (hw : -9223372036854775808 ≤ who ∧ who ≤ 9223372036854775807) (a : Int) (is : Bool) (ha : ((atF f who).getD (0, 0)).1 = a) (hi : (atF f who).isSome = is) :
    Calls Try.prog 32 #[.pointer (some ⟨t, 0, none⟩), .int .i64 who] w fun e w' => e = .returned (.tuple #[.int .i64 a, .bool is]) ∧ Hid (St w0 w' t b f) ∧ Hid (Below w.heap.size w w') := by
  subst ha hi
  refine (Age_calls w t b f h.tab who hw).mono ?_
  rintro e w' ⟨rfl, h1⟩
  exact ⟨rfl, Lib.hid (h.keep h1.out), h1⟩
theorem new_to (w0 w : World) (h : Below w0.heap.size w0 w) :
    Calls Try.prog 24 #[] w fun e w' => ∃ t b, e = .returned (.pointer (some ⟨t, 0, none⟩)) ∧ Hid (St w0 w' t b (fun _ => none)) ∧ Hid (Below w.heap.size w w') := by
  refine (New_calls w).mono ?_
  rintro e w' ⟨rfl, h1, h2⟩
  exact ⟨_, _, rfl, Lib.hid ⟨h1.out, good_none, h.trans (h2.out.mono h.size), by have := h.size; omega⟩, h2⟩
/-! alive -/
def fa : FT := upd (fun _ => none) 3 (some (0, 0))
theorem fa_hear : hearF (fun _ => none) 3 = (0, fa) := by kernel_rfl
theorem fa_g0 : goneF 1 fa = [] := by kernel_rfl
theorem fa_a : ((atF (tickF 1 fa) 3).getD (0, 0)).1 = 1 ∧ (atF (tickF 1 fa) 3).isSome = true := by constructor <;> kernel_rfl
theorem fa_g1 : goneF 1 (tickF 1 fa) = [] := by kernel_rfl
theorem fa_g2 : goneF 1 (tickF 1 (tickF 1 fa)) = [3] := by kernel_rfl
theorem fa_n : nums (tickF 1 (tickF 1 (tickF 1 fa))) = [] := by kernel_rfl
set_option maxRecDepth 100000 in
set_option maxHeartbeats 8000000 in
theorem alive_calls (w : World) : Calls Try.prog 23 #[] w fun e w' => e = .returned (.bool true) ∧ Hid (Below w.heap.size w w') := by
  have HB0 := Lib.hid (Below.refl w.heap.size w)
  go_enter Try.func23, Try.ntmps23
  go_wp2_with fail
  refine (new_to w w HB0.out).mono ?_
  rintro e w1 ⟨t, b, rfl, S1, _⟩
  go_wp2_with fail
  refine (hear_to S1.out 3 0 fa fa_hear).mono ?_
  rintro e w2 ⟨rfl, S2, _⟩
  go_wp2_with fail
  refine (tick_to S2.out 1 _ rfl [] fa_g0 0 rfl).mono ?_
  rintro e w3 ⟨A3, c3, rfl, _, S3, _⟩
  go_wp2_with fail
  refine (age_to S3.out 3 (by decide) 1 true fa_a.1 fa_a.2).mono ?_
  rintro e w4 ⟨rfl, S4, _⟩
  go_wp2_with fail
  refine (tick_to S4.out 1 _ rfl [] fa_g1 0 rfl).mono ?_
  rintro e w5 ⟨A5, c5, rfl, _, S5, _⟩
  go_wp2_with fail
  refine (tick_to S5.out 1 _ rfl [3] fa_g2 1 rfl).mono ?_
  rintro e w6 ⟨A6, c6, rfl, _, S6, _⟩
  go_wp2_with fail
  refine (near_to S6.out [] fa_n 0 rfl).mono ?_
  rintro e w7 ⟨A7, c7, rfl, _, S7, _⟩
  go_wp2_with fail
  go_ret
  exact ⟨rfl, Lib.hid S7.out.below⟩
end Go.Proofs.Ytcopnddmkmgihaa.Mb
