/- member: the nil table; two lists compared. -/
import Derived.Test.YtcopnddmkmgihaaMv
namespace Go.Proofs.Ytcopnddmkmgihaa.Mb
open Go.RowKit Go.Maps Go.Sort Go.Shelf Go.ChangeMaps Go.MapKept Go.Proofs.YtcopnddmkmgihaaW.PrintWords Go.Proofs.YtcopnddmkmgihaaW.PrintLast Go.Proofs.YtcopnddmkmgihaaW.PrintMore Go.Proofs.YtcopnddmkmgihaaEv Go.Proofs.YtcopnddmkmgihaaRx
set_option linter.unusedVariables false
set_option linter.unusedSimpArgs false
set_option maxRecDepth 100000 in
theorem Hear_nil (w : World) (who : Int) : Calls Try.prog 25 #[.pointer none, .int .i64 who] w fun e w' => e = .returned (.int .i64 2) ∧ w' = w := by
  go_enter Try.func25, Try.ntmps25
  go_wp2
  go_ret
  exact ⟨rfl, rfl⟩
set_option maxRecDepth 100000 in
theorem Tick_nil (w : World) (p : Int) : Calls Try.prog 27 #[.pointer none, .int .i64 p] w fun e w' => e = .returned (.slice none 0 0) ∧ w' = w := by
  go_enter Try.func27, Try.ntmps27
  go_wp2
  go_ret
  exact ⟨rfl, rfl⟩
set_option maxRecDepth 100000 in
theorem Near_nil (w : World) : Calls Try.prog 30 #[.pointer none] w fun e w' => e = .returned (.slice none 0 0) ∧ w' = w := by
  go_enter Try.func30, Try.ntmps30
  go_wp2
  go_ret
  exact ⟨rfl, rfl⟩
set_option maxRecDepth 100000 in
theorem Age_nil (w : World) (who : Int) : Calls Try.prog 32 #[.pointer none, .int .i64 who] w fun e w' => e = .returned (.tuple #[.int .i64 0, .bool false]) ∧ w' = w := by
  go_enter Try.func32, Try.ntmps32
  go_wp2
  go_ret2
  exact ⟨rfl, rfl⟩
set_option maxRecDepth 100000 in
theorem Drop_nil (w : World) (who : Int) : Calls Try.prog 29 #[.pointer none, .int .i64 who] w fun e w' => e = .returned (.tuple #[]) ∧ w' = w := by
  go_enter Try.func29, Try.ntmps29
  go_wp2
  go_end0
  exact ⟨rfl, rfl⟩
/-- A list of numbers as it is read. -/
def Rd (w : World) (A : Option Addr) (l : List Int) : Prop := ∀ j (hj : j < l.length), ∃ g, A = some ⟨g, 0, none⟩ ∧ w.cell? ⟨g, j, none⟩ = some (.int .i64 l[j])
theorem Rd.below {w w1 : World} {A : Option Addr} {l : List Int} (h : Rd w A l) (hb : Below w.heap.size w w1) : Rd w1 A l := fun j hj => by
  obtain ⟨g, e, hc⟩ := h j hj
  exact ⟨g, e, pw_cell_below hb hc⟩
set_option maxRecDepth 100000 in
set_option maxHeartbeats 4000000 in
theorem Same_calls (w : World) (A1 A2 : Option Addr) (m c1 c2 : Nat) (l : List Int) (hm : l.length = m) (hm48 : m ≤ 48) (h1 : Rd w A1 l) (h2 : Rd w A2 l) :
    Calls Try.prog 20 #[.slice A1 m c1, .slice A2 m c2] w fun e w' => e = .returned (.bool true) ∧ Hid (Below w.heap.size w w') := by
  have H1 := Lib.hid h1
  have H2 := Lib.hid h2
  have HM := Lib.hid hm
  have HM48 := Lib.hid hm48
  clear h1 h2 hm hm48
  go_enter Try.func20, Try.ntmps20
  go_wp2_with fail
  go_loopw [13] (fun v13 wr => ∃ k : Nat, k ≤ m ∧ v13 = .int .i64 k ∧ Hid (Below w.heap.size w wr)) (fun v13 _ => m - (intOf v13).toNat)
  case atStart => exact ⟨0, by omega, rfl, Lib.hid (Below.refl _ _)⟩
  case round =>
    obtain ⟨k, hk, rfl, HB⟩ := hrel
    by_cases hlt : k < m
    · have hk1 : (k : Int) < (m : Int) := by omega
      have hs1 : -9223372036854775808 ≤ (k : Int) + 1 := by omega
      have hs2 : (k : Int) + 1 ≤ 9223372036854775807 := by have := HM48.out; omega
      obtain ⟨g1, e, hc1⟩ := H1.out.below HB.out k (by have := HM.out; omega)
      cases e
      obtain ⟨g2, e, hc2⟩ := H2.out.below HB.out k (by have := HM.out; omega)
      cases e
      obtain ⟨x, hx⟩ : ∃ x, l[k]'(by have := HM.out; omega) = x := ⟨_, rfl⟩
      rw [hx] at hc1 hc2
      clear hx
      go_wp2_with fail
      go_region
      go_wp2_with fail
      exact ⟨⟨k + 1, by omega, by simp, Lib.hid (HB.out.trans (pw_below_drewN (Below.refl _ _) 1 |>.mono HB.out.size))⟩, by simp [intOf]; omega⟩
    · obtain rfl : k = m := by omega
      go_wp2_with fail
      go_ret
      exact ⟨rfl, HB⟩
theorem row_rd {w : World} {base n : Nat} {A : Option Addr} {c : Nat} {xs : List Int} (h : w.ownsRow base 3 1 (.slice A n c) n (xs.map (.int .i64))) : xs.length = n ∧ Rd w A xs := by
  have hl := h.1
  rw [List.length_map, Nat.mul_one] at hl
  refine ⟨hl, ?_⟩
  rcases h.2 with ⟨_, h0⟩ | ⟨g, cap, cur, e, hg, h1, _, h3, h4⟩
  · exact fun j hj => by omega
  · injection e with e
    subst e
    refine fun j hj => ⟨g, rfl, ?_⟩
    rw [blk_cell h1]
    have h5 : (cur.toList.take (n * 1))[j]? = some (.int .i64 xs[j]) := by
      rw [h4.2, List.getElem?_map, List.getElem?_eq_getElem hj]
      rfl
    rw [List.getElem?_take] at h5
    split at h5
    · simpa using h5
    · cases h5
/-! both tables -/
structure Du (w0 w : World) (t b r : Nat) (f g : FT) : Prop where
  st : St w0 w t b f
  rt : RTb w r g
  low : w0.heap.size ≤ r
theorem Du.ne {w0 w : World} {t b r : Nat} {f g : FT} (h : Du w0 w t b r f g) : r ≠ t ∧ r ≠ b := by
  refine ⟨fun e => ?_, fun e => ?_⟩
  · have := h.rt
    unfold RTb at this
    rw [e, h.st.tab.blk] at this
    simp at this
  · obtain ⟨D, ⟨es, clock, hb, _⟩, _⟩ := h.st.tab.map
    have := h.rt
    unfold RTb at this
    rw [e, hb] at this
    cases this
theorem Du.keep {w0 w w1 : World} {t b r : Nat} {f g : FT} (h : Du w0 w t b r f g) (hb : Below w.heap.size w w1) : Du w0 w1 t b r f g := ⟨h.st.keep hb, h.rt.below hb, h.low⟩
theorem Du.left {w0 w w1 : World} {t b r : Nat} {f f' g : FT} (h : Du w0 w t b r f g) (hs : St w0 w1 t b f') (hg : w.grownBy w1 (some b)) : Du w0 w1 t b r f' g :=
  ⟨hs, (hg.block r (blk_lt h.rt) (fun e => h.ne.2 (Option.some.inj e))).trans h.rt, h.low⟩
theorem Du.right {w0 w w1 : World} {t b r : Nat} {f g g' : FT} (h : Du w0 w t b r f g) (ht : RTb w1 r g') (hg : w.grownBy w1 (some r)) : Du w0 w1 t b r f g' :=
  ⟨⟨h.st.tab.kept hg (fun e => h.ne.1 (Option.some.inj e).symm) (fun e => h.ne.2 (Option.some.inj e).symm), h.st.good, h.st.below.grown hg h.st.below.size (fun k e => by cases e; exact h.low), h.st.new⟩, ht, h.low⟩
/-- A call of the script in its block. -/
def Cb (w : World) (q : Nat) (x0 x1 : Int) : Prop := w.heap[q]? = some (.cells #[.int .i64 x0, .int .i64 x1] 55 (0, 0))
theorem Cb.left {w0 w w1 : World} {t b r q : Nat} {f g : FT} {x0 x1 : Int} (h : Cb w q x0 x1) (d : Du w0 w t b r f g) (hg : w.grownBy w1 (some b)) : Cb w1 q x0 x1 := by
  refine (hg.block q (blk_lt h) (fun e => ?_)).trans h
  obtain ⟨D, ⟨es, clock, hb, _⟩, _⟩ := d.st.tab.map
  have e2 : q = b := Option.some.inj e
  unfold Cb at h
  rw [e2, hb] at h
  cases h
theorem Cb.right {w0 w w1 : World} {t b r q : Nat} {f g : FT} {x0 x1 : Int} (h : Cb w q x0 x1) (d : Du w0 w t b r f g) (hg : w.grownBy w1 (some r)) : Cb w1 q x0 x1 := by
  refine (hg.block q (blk_lt h) (fun e => ?_)).trans h
  have e2 : q = r := Option.some.inj e
  have h2 := d.rt
  unfold Cb at h
  unfold RTb at h2
  rw [e2, h2] at h
  simp at h
theorem d_hear1 {w0 w : World} {t b r q : Nat} {f g : FT} {x0 x1 : Int} (d : Du w0 w t b r f g) (c : Cb w q x0 x1) (who e0 : Int) (f' : FT) (he : hearF f who = (e0, f')) :
    Calls Try.prog 25 #[.pointer (some ⟨t, 0, none⟩), .int .i64 who] w fun e w' => e = .returned (.int .i64 e0) ∧ Hid (Du w0 w' t b r f' g) ∧ Cb w' q x0 x1 := by
  refine (hear_to d.st who e0 f' he).mono ?_
  rintro e w' ⟨rfl, h1, h2⟩
  exact ⟨rfl, Lib.hid (d.left h1.out h2.out), c.left d h2.out⟩
theorem d_hear2 {w0 w : World} {t b r q : Nat} {f g : FT} {x0 x1 : Int} (d : Du w0 w t b r f g) (c : Cb w q x0 x1) (who e0 : Int) (g' : FT) (he : hearF g who = (e0, g')) :
    Calls Try.prog 26 #[.pointer (some ⟨r, 0, none⟩), .int .i64 who] w fun e w' => e = .returned (.int .i64 e0) ∧ Hid (Du w0 w' t b r f g') ∧ Cb w' q x0 x1 := by
  refine (RHear_calls w r g d.rt who e0 g' he).mono ?_
  rintro e w' ⟨rfl, h1, h2⟩
  exact ⟨rfl, Lib.hid (d.right h1.out h2.out), c.right d h2.out⟩
/-- A row of one's own above the document's table. -/
def Ow (w : World) (r : Nat) (A : Option Addr) (m c : Nat) (l : List Int) : Prop := ∃ base, r < base ∧ w.ownsRow base 3 1 (.slice A m c) m (l.map (Value.int .i64))
theorem d_tick1 {w0 w : World} {t b r q : Nat} {f g : FT} {x0 x1 : Int} (d : Du w0 w t b r f g) (c : Cb w q x0 x1) (p : Int) (l : List Int) (hl : goneF p f = l) (m : Nat) (hm : l.length = m) :
    Calls Try.prog 27 #[.pointer (some ⟨t, 0, none⟩), .int .i64 p] w fun e w' => ∃ A c', e = .returned (.slice A m c') ∧ Hid (Du w0 w' t b r (tickF p f) g) ∧ Hid (Ow w' r A m c' l) ∧ Cb w' q x0 x1 := by
  refine (tick_to d.st p _ rfl l hl m hm).mono ?_
  rintro e w' ⟨A, c', rfl, h0, h1, h2⟩
  exact ⟨A, c', rfl, Lib.hid (d.left h1.out h2.out), Lib.hid ⟨_, blk_lt d.rt, h0.out⟩, c.left d h2.out⟩
theorem d_tick2 {w0 w : World} {t b r q : Nat} {f g : FT} {x0 x1 : Int} (d : Du w0 w t b r f g) (c : Cb w q x0 x1) (hgd : GoodF g) {A1 : Option Addr} {m c1 : Nat} {l : List Int} (o : Ow w r A1 m c1 l) (p : Int) (hl : goneF p g = l) (hm : l.length = m) :
    Calls Try.prog 28 #[.pointer (some ⟨r, 0, none⟩), .int .i64 p] w fun e w' => ∃ A c', e = .returned (.slice A m c') ∧ Hid (Du w0 w' t b r f (tickF p g)) ∧ Hid (Rd w' A1 l) ∧ Hid (Rd w' A l) ∧ Cb w' q x0 x1 := by
  refine (RTick_calls w r g d.rt hgd p l hl m hm).mono ?_
  rintro e w' ⟨A, c', rfl, h0, h1, h2⟩
  obtain ⟨base, hb, ho⟩ := o
  exact ⟨A, c', rfl, Lib.hid (d.right h1.out h2.out), Lib.hid (row_rd (own_set ho hb h2.out)).2, Lib.hid (row_rd h0.out).2, c.right d h2.out⟩
end Go.Proofs.Ytcopnddmkmgihaa.Mb
