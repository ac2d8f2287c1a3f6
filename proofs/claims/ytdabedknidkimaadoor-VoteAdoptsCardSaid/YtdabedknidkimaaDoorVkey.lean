/- vote.Key, and the document's: the text of a table. -/
import Derived.Test.YtdabedknidkimaaDoorVk
import Derived.Test.YtdabedknidkimaaDoorX2
import Derived.Test.YtdabedknidkimaaDoorVp
import Derived.Deep.RegionHeld3
namespace Go.Proofs.YtdabedknidkimaaDoor.Vt
open Go.Sort Go.RowKit Go.Proofs.YtdabedknidkimaaDoorW.PrintWords Go.Proofs.YtdabedknidkimaaDoorW.PrintLast Go.Proofs.YtdabedknidkimaaDoorW.PrintMore Go.Proofs.YtdabedknidkimaaDoorEv Go.Proofs.YtdabedknidkimaaDoor.X
set_option linter.unusedVariables false
set_option linter.unusedSimpArgs false
/-- The table of powers of ten lies as its initialiser lays it. -/
abbrev Tb (w : World) : Prop := Lib.TabIs Tryd.prog w "internal/strconv.uint64pow10" .u64 Lib.pow10Tab
theorem gnum : Tryd.prog.globalNamed "internal/strconv.uint64pow10" = some 0 := by kernel_rfl
theorem Tb.of {w w' : World} (h : Tb w) (hs : w'.heap[0]? = w.heap[0]?) : Tb w' := by
  unfold Tb Lib.TabIs at h ⊢
  rw [← h]
  simp only [World.var?, gnum, Option.bind_some, hs]
theorem Tb.lt {w : World} (h : Tb w) : 0 < w.heap.size := World.block_lt_of_cell? w ⟨0, 0, none⟩ (h.cell gnum 0 (by decide))
theorem Tb.below {w w' : World} (h : Tb w) (hb : Below w.heap.size w w') : Tb w' := h.of (hb.block _ h.lt)
theorem itoa_to (n : Int) (h : -9223372036854775808 ≤ n ∧ n ≤ 9223372036854775807) (w : World) (ht : Tb w) : Calls Tryd.prog 17 #[.int .i64 n] w fun e w' => e = .returned (.string ⟨(Lib.itoa n).toArray⟩) ∧ Hid (Below w.heap.size w w') := by
  refine (Tryd.strconv_Itoa n h.1 h.2 w ht).mono ?_
  rintro e w' ⟨rfl, k, os, rfl⟩
  refine ⟨rfl, Lib.hid ⟨rfl, rfl, rfl, by simp [grow, World.drewN], fun j hj => ?_⟩⟩
  show (w.heap ++ os)[j]? = w.heap[j]?
  rw [Array.getElem?_append_left hj]
theorem dig_len : ∀ (k u : Nat), u < 10 ^ (k + 1) → (Lib.decDigits u).length ≤ k + 1
  | 0, u, h => by rw [Lib.decDigits, dif_pos (by simpa using h)]; simp
  | k + 1, u, h => by
    rw [Lib.decDigits]
    split
    · simp
    · rw [List.length_append]
      have := dig_len k (u / 10) (by rw [Nat.pow_succ] at h; omega)
      simp
      omega
theorem itoa_len (n : Int) (h : -9223372036854775808 ≤ n ∧ n ≤ 9223372036854775807) : (Lib.itoa n).length ≤ 20 := by
  unfold Lib.itoa
  split
  · have := dig_len 18 n.natAbs (by omega)
    simp
    omega
  · have := dig_len 18 n.toNat (by omega)
    omega
/-- The text of an entry, and of a table. -/
def ent (x : S37) : List UInt8 := Lib.itoa x.f0 ++ [58] ++ Lib.itoa x.f1 ++ [59]
def keyL (l : List S37) : List UInt8 := l.flatMap ent

theorem ent_len {x : S37} (h : okE x) : (ent x).length ≤ 42 := by
  have h1 := itoa_len _ h.1
  have h2 := itoa_len _ h.2
  unfold ent
  simp
  omega
theorem key_len : ∀ (l : List S37), (∀ x ∈ l, okE x) → (keyL l).length ≤ l.length * 42
  | [], _ => by simp [keyL]
  | x :: r, h => by
    have h1 := ent_len (h x List.mem_cons_self)
    have h2 := key_len r (fun y hy => h y (List.mem_cons_of_mem _ hy))
    unfold keyL at h2 ⊢
    rw [List.flatMap_cons, List.length_append, List.length_cons]
    omega
theorem key_snoc (l : List S37) (x : S37) : keyL (l ++ [x]) = keyL l ++ ent x := by simp [keyL]
theorem ent_str (x : S37) : Lib.strCells ((⟨(Lib.itoa x.f0).toArray⟩ : ByteArray) ++ ⟨#[58]⟩ ++ ⟨(Lib.itoa x.f1).toArray⟩ ++ ⟨#[59]⟩) = Lib.byteCells (ent x) := by
  simp [Lib.strCells, Lib.byteCells, ent, ByteArray.data_append]
theorem bld_below {B b : Nat} {bs : List Value} {w w' : World} (h : Lib.IsBuilder 41 5 B b bs w) (hb : Below w.heap.size w w') : Lib.IsBuilder 41 5 B b bs w' := by
  have key : ∀ p, Lib.BuilderAt 41 5 B b p bs w → Lib.BuilderAt 41 5 B b p bs w' := fun p h => by
    obtain ⟨h1, v, h2, h3, h4⟩ := h
    exact ⟨h1, v, (hb.block b (blk_lt h2)).trans h2, pw_own_below h3 hb, h4⟩
  exact h.imp (key _) (key _)
/-- An element's cells, of a row that came in. -/
theorem in37 {w0 w : World} {A : Option Addr} {xs : List S37} (h : Kd.C k37 w0 A xs.length xs) (hb : Below w0.heap.size w0 w) (k : Nat) (hk : k < xs.length) :
    ∃ ad, A = some ad ∧ ∀ j u, [Value.int .i64 xs[k].f0, .int .i64 xs[k].f1][j]? = some u → w.cell? ((ad.add (k * 2)).add j) = some u := by
  obtain ⟨ad, c, e, _, hK, hc⟩ := Kd.C_get h z37 k (by omega) (by omega)
  have e2 := k37_open hK
  refine ⟨ad, e, fun j u hu => ?_⟩
  rw [add_add]
  refine pw_cell_below hb ?_
  have hg : rdOf z37 xs (k : Int) = xs[k] := by simp [rdOf, List.getD_eq_getElem?_getD, hk]
  have : w0.cell? (ad.add ((k : Int).toNat * 2 + j)) = some u := hc j u (by
    rw [e2]
    show [Value.int .i64 (rdOf z37 xs (k : Int)).f0, Value.int .i64 (rdOf z37 xs (k : Int)).f1][j]? = some u
    rw [hg]; exact hu)
  simpa using this
set_option maxRecDepth 100000 in
set_option maxHeartbeats 8000000 in
theorem Key_calls (A : Option Addr) (c : Nat) (l : List S37) (w : World) (hr : Kd.C k37 w A l.length l) (ht : Tb w) (hok : ∀ x ∈ l, okE x) (hl : l.length ≤ 4096) :
    Calls Tryd.prog 10 #[.slice A l.length c] w fun e w' => e = .returned (.string ⟨(keyL l).toArray⟩) ∧ Below w.heap.size w w' := by
  have R := Lib.hid hr
  have T := Lib.hid ht
  have O := Lib.hid hok
  clear hr ht hok
  obtain ⟨b, hb⟩ : ∃ b, w.heap.size = b := ⟨_, rfl⟩
  obtain ⟨n, hn⟩ : ∃ n, l.length = n := ⟨_, rfl⟩
  have HN := Lib.hid hn
  rw [hn] at hl ⊢
  clear hn
  go_enter Tryd.func10, Tryd.ntmps10
  go_wp2
  have HB0 : Hid (Lib.IsBuilder 41 5 w.heap.size w.heap.size (Lib.byteCells (keyL (l.take 0))) (w.alloc (.cells #[.pointer none, .slice none 0 0] 41 (0, 0)))) := Lib.hid (.inl ⟨Nat.le_refl _, _, blk_new w _, World.ownsRow_nil _ _ _ _, by simp [Value.ownBlock]⟩)
  have HW0 : Hid (Below w.heap.size w (w.alloc (.cells #[.pointer none, .slice none 0 0] 41 (0, 0)))) := Lib.hid (below_alloc (Below.refl _ _) _)
  generalize w.alloc (.cells #[.pointer none, .slice none 0 0] 41 (0, 0)) = w1 at HB0 HW0 ⊢
  go_loopw [8] (fun v8 wr => ∃ k : Nat, k ≤ n ∧ v8 = .int .i64 k ∧ Hid (Lib.IsBuilder 41 5 w.heap.size w.heap.size (Lib.byteCells (keyL (l.take k))) wr) ∧ Hid (Below w.heap.size w wr)) (fun v8 _ => n - (intOf v8).toNat)
  case atStart => exact ⟨0, by omega, rfl, HB0, HW0⟩
  case round =>
    clear HB0 HW0
    obtain ⟨k, hk, rfl, HB, HW⟩ := hrel
    by_cases hlt : k < n
    · have hkl : k < l.length := by rw [HN.out]; exact hlt
      have hk1 : (k : Int) < (n : Int) := by omega
      have hs1 : -9223372036854775808 ≤ (k : Int) + 1 := by omega
      have hs2 : (k : Int) + 1 ≤ 9223372036854775807 := by omega
      obtain ⟨ad, e, hx⟩ := in37 R.out HW.out k hkl
      cases e
      obtain ⟨x, hxe⟩ : ∃ x, l[k] = x := ⟨_, rfl⟩
      rw [hxe] at hx
      have HX := Lib.hid hxe
      have HOK : Hid (okE x) := Lib.hid (O.out x (hxe ▸ List.getElem_mem hkl))
      have HTK : Hid (keyL (l.take (k + 1)) = keyL (l.take k) ++ ent x) := Lib.hid (by rw [List.take_succ_eq_append_getElem hkl, key_snoc, hxe])
      have HKL : Hid ((keyL (l.take k)).length ≤ 4096 * 42) := Lib.hid (Nat.le_trans (key_len _ (fun y hy => O.out y (List.mem_of_mem_take hy))) (Nat.mul_le_mul_right _ (by rw [List.length_take]; omega)))
      have HC := Lib.hid hx
      have HEL := Lib.hid (ent_len HOK.out)
      have HES := Lib.hid (ent_str x)
      clear hx hxe
      have hxf : ∃ x0 x1, x.f0 = x0 ∧ x.f1 = x1 := ⟨_, _, rfl, rfl⟩
      obtain ⟨x0, x1, e0, e1⟩ := hxf
      rw [e0, e1] at HC HES
      have HI0 : Hid (-9223372036854775808 ≤ x0 ∧ x0 ≤ 9223372036854775807) := Lib.hid (by rw [← e0]; exact HOK.out.1)
      have HI1 : Hid (-9223372036854775808 ≤ x1 ∧ x1 ≤ 9223372036854775807) := Lib.hid (by rw [← e1]; exact HOK.out.2)
      clear e0 e1
      go_wp2_with ((with_reducible refine gate_dst (N := 11) rfl ?_); refine load_cells rfl rfl (ad := ad.add (k * 2)) (cs := [.int .i64 x0, .int .i64 x1]) ?hx Tryd.underlying37 rfl (by kernel_rfl) HC.out ?_; (case hx => first | rfl | (go_simp; done) | (go_simp; rfl)))
      have HC2 : Hid ((wr.alloc (.cells #[.int .i64 x0, .int .i64 x1] 37 (0, 0))).heap[wr.heap.size]? = some (.cells #[.int .i64 x0, .int .i64 x1] 37 (0, 0))) := Lib.hid (blk_new wr _)
      have HWA : Hid (Below wr.heap.size wr (wr.alloc (.cells #[.int .i64 x0, .int .i64 x1] 37 (0, 0)))) := Lib.hid (below_alloc (Below.refl _ _) _)
      have HW2 := Lib.hid (HW.out.trans (HWA.out.mono HW.out.size))
      have HB2 := Lib.hid (bld_below HB.out HWA.out)
      have HQB : Hid (wr.heap.size ≠ b) := Lib.hid (fun e => by
        have : b < wr.heap.size := by
          rcases HB.out with h | h
          · exact hb ▸ h.lt
          · exact hb ▸ h.lt
        omega)
      clear HW HB HWA
      generalize wr.alloc (.cells #[.int .i64 x0, .int .i64 x1] 37 (0, 0)) = W at HC2 HW2 HB2 ⊢
      generalize wr.heap.size = q at HC2 HQB ⊢
      have HT2 := Lib.hid (T.out.below HW2.out)
      have HI := Lib.hid (fun (W : World) (h : Tb W) => itoa_to x0 HI0.out W h)
      have HJ := Lib.hid (fun (W : World) (h : Tb W) => itoa_to x1 HI1.out W h)
      have hl0 := itoa_len x0 HI0.out
      have hl1 := itoa_len x1 HI1.out
      have hz0 : (⟨(Lib.itoa x0).toArray⟩ : ByteArray).size ≤ 20 := by simpa [ByteArray.size] using hl0
      have hz1 : (⟨(Lib.itoa x1).toArray⟩ : ByteArray).size ≤ 20 := by simpa [ByteArray.size] using hl1
      clear hl0 hl1
      generalize (⟨(Lib.itoa x0).toArray⟩ : ByteArray) = s0 at HI HES hz0
      generalize (⟨(Lib.itoa x1).toArray⟩ : ByteArray) = s1 at HJ HES hz1
      have hA : ∀ w, (Op.stringOp .add s0 ⟨#[58]⟩).run Tryd.prog w = .ok (.string (s0 ++ ⟨#[58]⟩)) w := fun w => run_string_add_sum w _ _ (by have : (⟨#[58]⟩ : ByteArray).size = 1 := rfl; omega)
      have hzA : (s0 ++ ⟨#[58]⟩ : ByteArray).size ≤ 21 := by rw [ByteArray.size_append]; have : (⟨#[58]⟩ : ByteArray).size = 1 := rfl; omega
      generalize (s0 ++ ⟨#[58]⟩ : ByteArray) = c0 at hA hzA HES
      have hB : ∀ w, (Op.stringOp .add c0 s1).run Tryd.prog w = .ok (.string (c0 ++ s1)) w := fun w => run_string_add_sum w _ _ (by omega)
      have hzB : (c0 ++ s1 : ByteArray).size ≤ 41 := by rw [ByteArray.size_append]; omega
      generalize (c0 ++ s1 : ByteArray) = c1 at hB hzB HES
      have hC : ∀ w, (Op.stringOp .add c1 ⟨#[59]⟩).run Tryd.prog w = .ok (.string (c1 ++ ⟨#[59]⟩)) w := fun w => run_string_add_sum w _ _ (by have : (⟨#[59]⟩ : ByteArray).size = 1 := rfl; omega)
      have hzC : (c1 ++ ⟨#[59]⟩ : ByteArray).size ≤ 42 := by rw [ByteArray.size_append]; have : (⟨#[59]⟩ : ByteArray).size = 1 := rfl; omega
      generalize (c1 ++ ⟨#[59]⟩ : ByteArray) = c2 at hC hzC HES
      have HZ := Lib.hid hzC
      clear hz0 hz1 hzA hzB hzC
      go_region_held3 (fun w' => w'.cell? ⟨q, 0, none⟩ = some (.int .i64 x0) ∧ w'.cell? ⟨q, 1, none⟩ = some (.int .i64 x1))
        (first | exact ⟨blk_cell (HK5.out q _ ((HB4.out.block q (blk_lt ((HB3.out.block q (blk_lt HC2.out)).trans HC2.out))).trans ((HB3.out.block q (blk_lt HC2.out)).trans HC2.out)) HQB.out (fun c f => by simp)) 0, blk_cell (HK5.out q _ ((HB4.out.block q (blk_lt ((HB3.out.block q (blk_lt HC2.out)).trans HC2.out))).trans ((HB3.out.block q (blk_lt HC2.out)).trans HC2.out)) HQB.out (fun c f => by simp)) 1⟩ | exact ⟨blk_cell HC2.out 0, blk_cell HC2.out 1⟩ | exact ⟨pw_cell_below HB3.out (blk_cell HC2.out 0), pw_cell_below HB3.out (blk_cell HC2.out 1)⟩ | exact ⟨pw_cell_below HB4.out (pw_cell_below HB3.out (blk_cell HC2.out 0)), pw_cell_below HB4.out (pw_cell_below HB3.out (blk_cell HC2.out 1))⟩ | go_keep)
        (first
          | (go_at_call 17; refine (HI.out _ ?h1).mono ?_; (case h1 => first | exact HT2.out | exact HT2.out.below (pw_below_drewN (Below.refl _ _) 1)); rintro e w3 ⟨rfl, HB3⟩)
          | (go_at_call 17; refine (HJ.out _ ?h1).mono ?_; (case h1 => first | exact HT2.out.below HB3.out | exact (HT2.out.below (pw_below_drewN (Below.refl _ _) 1)).below HB3.out); rintro e w4 ⟨rfl, HB4⟩)
          | (go_at_call 16; refine (WriteString_calls w.heap.size b (Lib.byteCells (keyL (l.take k))) c2 w4 ?hb1 ?hb2 ?hb3).mono ?_; (case hb1 => rw [← hb]; first | exact bld_below (bld_below HB2.out HB3.out) HB4.out | exact bld_below (bld_below (bld_below HB2.out (pw_below_drewN (Below.refl _ _) 1)) HB3.out) HB4.out); (case hb2 => rw [Lib.byteCells_length]; have := HKL.out; have := HZ.out; omega); (case hb3 => exact Nat.le_trans HW2.out.size (Nat.le_trans HB3.out.size HB4.out.size)); rintro e w5 ⟨rfl, HB5, HW5, hk5⟩; have HK5 := Lib.hid hk5; clear hk5))
      go_wp2
      go_roundw
      case rel =>
        refine ⟨k + 1, by omega, by simp, Lib.hid ?_, Lib.hid ?_⟩
        · rw [HTK.out, Lib.byteCells_append, ← HES.out]
          exact .inr (hb ▸ HB5)
        · have h34 : Below w.heap.size w w4 := by
            first
              | exact (HW2.out.trans (HB3.out.mono HW2.out.size)).trans (HB4.out.mono (Nat.le_trans HW2.out.size HB3.out.size))
              | exact ((HW2.out.trans ((pw_below_drewN (Below.refl _ _) 1).mono HW2.out.size)).trans (HB3.out.mono HW2.out.size)).trans (HB4.out.mono (Nat.le_trans HW2.out.size HB3.out.size))
          exact h34.trans HW5
      case measure => simp [intOf]; omega
    · obtain rfl : k = n := by omega
      have HK : Hid (l.take k = l) := Lib.hid (List.take_of_length_le (by rw [HN.out]; exact Nat.le_refl _))
      rw [HK.out] at HB
      go_wp2_with (go_at_call 18; refine (Tryd.Builder_String_any w.heap.size b (keyL l) _ (hb ▸ HB.out) HW.out.size).mono ?_; rintro e w5 ⟨rfl, HW5⟩)
      go_ret
      exact ⟨rfl, HW.out.trans HW5⟩
end Go.Proofs.YtdabedknidkimaaDoor.Vt
