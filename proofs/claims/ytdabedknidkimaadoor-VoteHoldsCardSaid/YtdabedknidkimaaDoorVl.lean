/- vote: what the laws share: rows that are written out; alive; the document's text. -/
import Derived.Test.YtdabedknidkimaaDoorVi
namespace Go.Proofs.YtdabedknidkimaaDoor.Vt
open Go.RowKit Go.Proofs.YtdabedknidkimaaDoorW.PrintWords Go.Proofs.YtdabedknidkimaaDoorW.PrintLast Go.Proofs.YtdabedknidkimaaDoorW.PrintMore Go.Proofs.YtdabedknidkimaaDoorEv Go.Proofs.YtdabedknidkimaaDoor.X
set_option linter.unusedVariables false
set_option linter.unusedSimpArgs false
theorem fl37_at : ∀ (l : List S37) (k : Nat) (hk : k < l.length) (i : Nat) (u : Value), [Value.int .i64 l[k].f0, .int .i64 l[k].f1][i]? = some u → (fl37 l)[k * 2 + i]? = some u
  | x :: l, 0, _, i, u, h => by
    match i, h with
    | 0, h => exact h
    | 1, h => exact h
  | x :: l, k + 1, hk, i, u, h => by
    have := fl37_at l k (by simpa using hk) i u h
    rw [show (k + 1) * 2 + i = (k * 2 + i) + 1 + 1 by omega]
    exact this
/-- A row whose cells are these. -/
theorem C_of_cells {w : World} {ad : Addr} {l : List S37} (hl : l.length ≤ 9223372036854775807) (h : ∀ j u, (fl37 l)[j]? = some u → w.cell? (ad.add j) = some u) : Kd.C k37 w (some ad) l.length l := by
  refine ⟨rfl, hl, fun _ => ⟨ad, rfl, fun j p hp => ?_⟩⟩
  obtain ⟨hj, rfl⟩ := List.getElem?_eq_some_iff.1 hp
  exact ⟨_, rfl, k37_mk w _, fun i u hu => h _ u (fl37_at l j hj i u hu)⟩
theorem C_nil (w : World) (A : Option Addr) : Kd.C k37 w A ([] : List S37).length [] := ⟨rfl, by decide, fun h => by simp at h⟩
theorem C_of_blk {w : World} {g : Nat} {l : List S37} (hl : l.length ≤ 9223372036854775807) (h : w.heap[g]? = some (.cells (fl37 l).toArray 37 (0, 0))) : Kd.C k37 w (some ⟨g, 0, none⟩) l.length l :=
  C_of_cells hl (fun j u hu => by
    rw [add_plain, blk_cell h]
    simpa using hu)
theorem C_of_own {w : World} {base : Nat} {u : Value} {l : List S37} (h : w.ownsRow base 37 2 u l.length (fl37 l)) : ∃ A c, u = .slice A l.length c ∧ l.length ≤ c ∧ Kd.C k37 w A l.length l := by
  rcases h.2 with ⟨rfl, h0⟩ | ⟨g, cap, cur, rfl, _, hg, h1, h2, h3, h4⟩
  · have : l = [] := List.eq_nil_of_length_eq_zero h0
    subst this
    exact ⟨none, 0, rfl, Nat.le_refl _, C_nil _ _⟩
  · refine ⟨_, cap, rfl, h1, C_of_cells (Nat.le_trans h1 (Nat.le_trans h2 (by unfold maxLen; omega))) (fun j u hu => ?_)⟩
    rw [add_plain, blk_cell hg]
    rw [← h4, List.getElem?_take] at hu
    split at hu
    · simpa using hu
    · cases hu
/-- A row of tables. -/
theorem T_of_cells {w : World} {ad : Addr} {ts : List (List S37)} (hl : ts.length ≤ 9223372036854775807) (h : ∀ (j : Nat) (hj : j < ts.length), ∃ A c, w.cell? (ad.add j) = some (.slice A ts[j].length c) ∧ ts[j].length ≤ c ∧ Kd.C k37 w A ts[j].length ts[j]) : Kd.C (Kd.slice 37 k37) w (some ad) ts.length ts := by
  refine ⟨rfl, hl, fun _ => ⟨ad, rfl, fun j p hp => ?_⟩⟩
  obtain ⟨hj, rfl⟩ := List.getElem?_eq_some_iff.1 hp
  obtain ⟨A, c, h1, h2, h3⟩ := h j hj
  refine ⟨[.slice A ts[j].length c], rfl, ⟨A, c, rfl, h2, h3⟩, fun i u hu => ?_⟩
  match i, hu with
  | 0, hu =>
    have : Value.slice A ts[j].length c = u := by simpa using hu
    rw [← this]
    show w.cell? (ad.add (j * 1 + 0)) = _
    rw [Nat.mul_one, Nat.add_zero]
    exact h1
theorem T_lit {w : World} {g : Nat} (hg : g = w.heap.size) {ts : List (List S37)} (hl : ts.length ≤ 9223372036854775807) (hs : List Value) (hh : ∀ (j : Nat) (hj : j < ts.length), ∃ A c, hs[j]? = some (.slice A ts[j].length c) ∧ ts[j].length ≤ c ∧ Kd.C k37 w A ts[j].length ts[j]) :
    Kd.C (Kd.slice 37 k37) (w.alloc (.cells hs.toArray 22 (0, 0))) (some ⟨g, 0, none⟩) ts.length ts := by
  subst hg
  refine T_of_cells hl (fun j hj => ?_)
  obtain ⟨A, c, h1, h2, h3⟩ := hh j hj
  refine ⟨A, c, ?_, h2, Kd.C_below h3 (below_alloc (Below.refl _ _) _)⟩
  rw [add_plain, blk_cell (blk_new w _)]
  simpa using h1
theorem lit_one (w : World) (g : Nat) (hg : g = w.heap.size) (x : S37) : Kd.C k37 (w.alloc (.cells #[.int .i64 x.f0, .int .i64 x.f1] 37 (0, 0))) (some ⟨g, 0, none⟩) 1 [x] := by
  subst hg
  exact C_of_blk (l := [x]) (by simp) (blk_new w _)
theorem tables_to (A : Option Addr) (c : Nat) (a : List S37) (B : Option Addr) (d : Nat) (b : List S37) (w : World) (h0 : Kd.C k37 w A a.length a) (h1 : a.length ≤ c) (h2 : Kd.C k37 w B b.length b) (h3 : b.length ≤ d) (hl : a.length ≤ 4611686018427387904) (r : Bool) (hr : eqT a b = r) :
    Calls Tryd.prog 12 #[.slice A a.length c, .slice B b.length d] w fun e w' => e = .returned (.bool r) ∧ Hid (Below w.heap.size w w') := by
  obtain ⟨k, hk⟩ := (tables_ev a b hl).rounds
  rw [hr] at hk
  refine (clepsydraref06_Tables.calls k A c a B d b r w h0 h1 h2 h3 hk).mono ?_
  rintro e w' ⟨rfl, h⟩
  exact ⟨rfl, Lib.hid h.below⟩
theorem adopt_to (a0 F a2 a3 a4 a5 a6 a7 a8 a9 a10 a11 : Int) (A0 : Option Addr) (c0 : Nat) (own : List S37) (n0 : Nat) (A1 : Option Addr) (c1 : Nat) (ts : List (List S37)) (n1 : Nat) (w : World) (hr0 : Kd.C k37 w A0 own.length own) (hr1 : Kd.C (Kd.slice 37 k37) w A1 ts.length ts) (ht : Tb w) (hown : own.length ≤ 4096) (hok : ∀ t ∈ ts, okT t) (hl : ts.length ≤ 4096) (hn0 : own.length = n0) (hn1 : ts.length = n1)
    (l : List S37) (b : Bool) (m : Nat) (hr : adoptP F own ts = (l, b)) (hm : l.length = m) :
    Calls Tryd.prog 13 #[.agg #[.int .i64 a0, .int .i64 F, .int .i64 a2, .int .i64 a3, .int .i64 a4, .int .i64 a5, .int .i64 a6, .int .i64 a7, .int .i64 a8, .int .i64 a9, .int .i64 a10, .int .i64 a11], .slice A0 n0 c0, .slice A1 n1 c1] w fun e w' =>
      ∃ A c, e = .returned (.tuple #[.slice A m c, .bool b]) ∧ Hid (m ≤ c) ∧ Hid (Kd.C k37 w' A l.length l) ∧ Hid (w'.ownsRow w.heap.size 37 2 (.slice A m c) m (fl37 l)) ∧ Hid (Below w.heap.size w w') := by
  subst hn0 hn1
  refine (Adopt_calls a0 F a2 a3 a4 a5 a6 a7 a8 a9 a10 a11 A0 c0 own A1 c1 ts w hr0 hr1 ht hown hok hl).mono ?_
  rintro e w' ⟨u, rfl, ho, hb⟩
  rw [hr] at ho
  rw [hr]
  dsimp only at ho ⊢
  subst hm
  obtain ⟨A, c, rfl, hc, hC⟩ := C_of_own ho
  exact ⟨A, c, rfl, Lib.hid hc, Lib.hid hC, Lib.hid ho, Lib.hid hb⟩
theorem key_to (A : Option Addr) (c : Nat) (l : List S37) (n : Nat) (hn : l.length = n) (w : World) (hr : Kd.C k37 w A l.length l) (ht : Tb w) (hok : okT l) (s : ByteArray) (hs : keyB l = s) :
    Calls Tryd.prog 10 #[.slice A n c] w fun e w' => e = .returned (.string s) ∧ Hid (Below w.heap.size w w') := by
  subst hn hs
  refine (Key_calls A c l w hr ht hok.2 hok.1).mono ?_
  rintro e w' ⟨rfl, h⟩
  exact ⟨rfl, Lib.hid h⟩
theorem lit3 (W : World) (g : Nat) (hg : g = W.heap.size) (ga gb : Option Addr) (ha : Kd.C k37 W ga 1 ta) (hb : Kd.C k37 W gb 1 tb0) : Kd.C (Kd.slice 37 k37) (W.alloc (.cells #[.slice ga 1 1, .slice gb 1 1, .slice ga 1 1] 22 (0, 0))) (some ⟨g, 0, none⟩) [ta, tb0, ta].length [ta, tb0, ta] := by
  refine T_lit hg (by decide) [.slice ga 1 1, .slice gb 1 1, .slice ga 1 1] (fun j hj => ?_)
  match j, hj with
  | 0, _ => exact ⟨_, _, rfl, Nat.le_refl _, ha⟩
  | 1, _ => exact ⟨_, _, rfl, Nat.le_refl _, hb⟩
  | 2, _ => exact ⟨_, _, rfl, Nat.le_refl _, ha⟩
theorem lit2 (W : World) (g : Nat) (hg : g = W.heap.size) (ga gb : Option Addr) (ha : Kd.C k37 W ga 1 ta) (hb : Kd.C k37 W gb 1 tb0) : Kd.C (Kd.slice 37 k37) (W.alloc (.cells #[.slice ga 1 1, .slice gb 1 1] 22 (0, 0))) (some ⟨g, 0, none⟩) [ta, tb0].length [ta, tb0] := by
  refine T_lit hg (by decide) [.slice ga 1 1, .slice gb 1 1] (fun j hj => ?_)
  match j, hj with
  | 0, _ => exact ⟨_, _, rfl, Nat.le_refl _, ha⟩
  | 1, _ => exact ⟨_, _, rfl, Nat.le_refl _, hb⟩
theorem ok3 : ∀ t ∈ [ta, tb0, ta], okT t := by
  intro t ht
  simp only [List.mem_cons, List.not_mem_nil, or_false] at ht
  rcases ht with rfl | rfl | rfl
  · exact okT_ta
  · exact okT_tb0
  · exact okT_ta
theorem ok2 : ∀ t ∈ [ta, tb0], okT t := by
  intro t ht
  simp only [List.mem_cons, List.not_mem_nil, or_false] at ht
  rcases ht with rfl | rfl
  · exact okT_ta
  · exact okT_tb0
set_option maxRecDepth 100000 in
set_option maxHeartbeats 8000000 in
theorem alive_calls (w : World) (ht : Tb w) : Calls Tryd.prog 8 #[] w fun e w' => e = .returned (.bool true) ∧ Hid (Below w.heap.size w w') := by
  have T := Lib.hid ht
  clear ht
  have hb1 : Below w.heap.size w (w.alloc (.cells #[.int .i64 86401, .int .i64 1] 37 (0, 0))) := below_alloc (Below.refl _ _) _
  have hb2 : Below w.heap.size w ((w.alloc (.cells #[.int .i64 86401, .int .i64 1] 37 (0, 0))).alloc (.cells #[.int .i64 86399, .int .i64 (-1)] 37 (0, 0))) := below_alloc hb1 _
  have CA : Hid (Kd.C k37 ((w.alloc (.cells #[.int .i64 86401, .int .i64 1] 37 (0, 0))).alloc (.cells #[.int .i64 86399, .int .i64 (-1)] 37 (0, 0))) (some ⟨w.heap.size, 0, none⟩) 1 ta) := Lib.hid (Kd.C_below (lit_one w _ rfl ⟨86401, 1⟩) (below_alloc (Below.refl _ _) (.cells #[.int .i64 86399, .int .i64 (-1)] 37 (0, 0))))
  have CB : Hid (Kd.C k37 ((w.alloc (.cells #[.int .i64 86401, .int .i64 1] 37 (0, 0))).alloc (.cells #[.int .i64 86399, .int .i64 (-1)] 37 (0, 0))) (some ⟨w.heap.size + 1, 0, none⟩) 1 tb0) := Lib.hid (lit_one (w.alloc (.cells #[.int .i64 86401, .int .i64 1] 37 (0, 0))) (w.heap.size + 1) (by simp) ⟨86399, -1⟩)
  have HB := Lib.hid hb2
  clear hb1 hb2
  go_enter Tryd.func8, Tryd.ntmps8
  go_wp2_with fail
  refine (adopt_to 0 1 0 0 0 0 0 0 0 0 0 0 none 0 [] 0 (some ⟨w.heap.size + 1 + 1, 0, none⟩) 3 [ta, tb0, ta] 3 _ (C_nil _ _) ?h1 ?h2 (by decide) ok3 (by decide) rfl rfl ta true 1 adopt3 rfl).mono ?_
  (case h1 => exact lit3 _ _ (by simp) _ _ CA.out CB.out)
  (case h2 => exact (T.out.below HB.out).below (below_alloc (Below.refl _ _) _))
  rintro e w3 ⟨A3, c3, rfl, HC3, HR3, HO3, HB3⟩
  have HBB := Lib.hid ((below_alloc (Below.refl _ _) _).trans (HB3.out.mono (by simp)))
  have CA3 := Lib.hid (Kd.C_below CA.out HBB.out)
  have CB3 := Lib.hid (Kd.C_below CB.out HBB.out)
  have HW3 := Lib.hid (HB.out.trans (HBB.out.mono HB.out.size))
  clear CA CB HB HBB
  go_wp2_with fail
  refine (adopt_to 0 1 0 0 0 0 0 0 0 0 0 0 none 0 [] 0 (some ⟨w3.heap.size, 0, none⟩) 2 [ta, tb0] 2 _ (C_nil _ _) ?h1 ?h2 (by decide) ok2 (by decide) rfl rfl [] false 0 adopt2 rfl).mono ?_
  (case h1 => exact lit2 _ _ rfl _ _ CA3.out CB3.out)
  (case h2 => exact (T.out.below HW3.out).below (below_alloc (Below.refl _ _) _))
  rintro e w4 ⟨A4, c4, rfl, _, _, _, HB4⟩
  have HBC := Lib.hid ((below_alloc (Below.refl _ _) _).trans (HB4.out.mono (by simp)))
  go_wp2_with fail
  refine (tables_to A3 c3 ta (some ⟨w.heap.size, 0, none⟩) 1 ta _ (Kd.C_below HR3.out HBC.out) HC3.out (Kd.C_below CA3.out HBC.out) (by decide) (by decide) true (eqT_refl _)).mono ?_
  rintro e w5 ⟨rfl, HB5⟩
  go_wp2_with fail
  refine (key_to (some ⟨w.heap.size, 0, none⟩) 1 ta 1 rfl _ (Kd.C_below (Kd.C_below CA3.out HBC.out) HB5.out) (((T.out.below HW3.out).below HBC.out).below HB5.out) okT_ta _ key_ta).mono ?_
  rintro e w6 ⟨rfl, HB6⟩
  go_wp2_with fail
  go_ret
  refine ⟨by rfl, Lib.hid ?_⟩
  have s3 := HW3.out.size
  have s4 := HBC.out.size
  have s5 := HB5.out.size
  exact ((HW3.out.trans (HBC.out.mono s3)).trans (HB5.out.mono (Nat.le_trans s3 s4))).trans (HB6.out.mono (Nat.le_trans s3 (Nat.le_trans s4 s5)))
end Go.Proofs.YtdabedknidkimaaDoor.Vt
