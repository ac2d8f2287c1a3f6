/- vote: the document's text of a table. -/
import Derived.Test.YtdabedknidkimaaDoorVl
namespace Go.Proofs.YtdabedknidkimaaDoor.Vt
open Go.RowKit Go.Proofs.YtdabedknidkimaaDoorW.PrintWords Go.Proofs.YtdabedknidkimaaDoorW.PrintLast Go.Proofs.YtdabedknidkimaaDoorW.PrintMore Go.Proofs.YtdabedknidkimaaDoorEv Go.Proofs.YtdabedknidkimaaDoor.X
set_option linter.unusedVariables false
set_option linter.unusedSimpArgs false
theorem ent_cat (l : List S37) (x : S37) : keyB l ++ ⟨(Lib.itoa x.f0).toArray⟩ ++ ⟨#[58]⟩ ++ ⟨(Lib.itoa x.f1).toArray⟩ ++ ⟨#[59]⟩ = keyB (l ++ [x]) := by
  unfold keyB
  rw [key_snoc]
  have e : ∀ (a b : ByteArray), a.data = b.data → a = b := fun a b h => by cases a; cases b; cases h; rfl
  apply e
  simp [ByteArray.data_append, ent]
set_option maxRecDepth 100000 in
set_option maxHeartbeats 8000000 in
theorem RefKey_calls (A : Option Addr) (c : Nat) (l : List S37) (w : World) (hr : Kd.C k37 w A l.length l) (ht : Tb w) (hok : ∀ x ∈ l, okE x) (hl : l.length ≤ 4096) :
    Calls Tryd.prog 11 #[.slice A l.length c] w fun e w' => e = .returned (.string (keyB l)) ∧ Below w.heap.size w w' := by
  have R := Lib.hid hr
  have T := Lib.hid ht
  have O := Lib.hid hok
  clear hr ht hok
  obtain ⟨n, hn⟩ : ∃ n, l.length = n := ⟨_, rfl⟩
  have HN := Lib.hid hn
  rw [hn] at hl ⊢
  clear hn
  go_enter Tryd.func11, Tryd.ntmps11
  go_wp2
  go_loopw [3, 8] (fun v3 v8 wr => ∃ (k : Nat) (s : ByteArray), k ≤ n ∧ v8 = .int .i64 k ∧ v3 = .string s ∧ Hid (s = keyB (l.take k)) ∧ Hid (Below w.heap.size w wr)) (fun _ v8 _ => n - (intOf v8).toNat)
  case atStart => exact ⟨0, _, by omega, rfl, rfl, Lib.hid rfl, Lib.hid (Below.refl _ _)⟩
  case round =>
    obtain ⟨k, s, hk, rfl, rfl, HS, HW⟩ := hrel
    by_cases hlt : k < n
    · have hkl : k < l.length := by rw [HN.out]; exact hlt
      have hk1 : (k : Int) < (n : Int) := by omega
      have hs1 : -9223372036854775808 ≤ (k : Int) + 1 := by omega
      have hs2 : (k : Int) + 1 ≤ 9223372036854775807 := by omega
      obtain ⟨ad, e, hx⟩ := in37 R.out HW.out k hkl
      cases e
      obtain ⟨x, hxe⟩ : ∃ x, l[k] = x := ⟨_, rfl⟩
      rw [hxe] at hx
      have HOK : Hid (okE x) := Lib.hid (O.out x (hxe ▸ List.getElem_mem hkl))
      have HTK : Hid (keyB (l.take (k + 1)) = s ++ ⟨(Lib.itoa x.f0).toArray⟩ ++ ⟨#[58]⟩ ++ ⟨(Lib.itoa x.f1).toArray⟩ ++ ⟨#[59]⟩) := Lib.hid (by rw [List.take_succ_eq_append_getElem hkl, hxe, HS.out, ent_cat])
      have hsz : s.size ≤ 4096 * 42 := by
        rw [HS.out]
        show (keyL (l.take k)).toArray.size ≤ _
        rw [List.size_toArray]
        exact Nat.le_trans (key_len _ (fun y hy => O.out y (List.mem_of_mem_take hy))) (Nat.mul_le_mul_right _ (by rw [List.length_take]; omega))
      have HC := Lib.hid hx
      clear hx hxe HS
      have hxf : ∃ x0 x1, x.f0 = x0 ∧ x.f1 = x1 := ⟨_, _, rfl, rfl⟩
      obtain ⟨x0, x1, e0, e1⟩ := hxf
      rw [e0, e1] at HC HTK
      have HI0 : Hid (-9223372036854775808 ≤ x0 ∧ x0 ≤ 9223372036854775807) := Lib.hid (by rw [← e0]; exact HOK.out.1)
      have HI1 : Hid (-9223372036854775808 ≤ x1 ∧ x1 ≤ 9223372036854775807) := Lib.hid (by rw [← e1]; exact HOK.out.2)
      clear e0 e1
      go_wp2_with ((with_reducible refine gate_dst (N := 11) rfl ?_); refine load_cells rfl rfl (ad := ad.add (k * 2)) (cs := [.int .i64 x0, .int .i64 x1]) ?hx Tryd.underlying37 rfl (by kernel_rfl) HC.out ?_; (case hx => first | rfl | (go_simp; done) | (go_simp; rfl)))
      have HC2 : Hid ((wr.alloc (.cells #[.int .i64 x0, .int .i64 x1] 37 (0, 0))).heap[wr.heap.size]? = some (.cells #[.int .i64 x0, .int .i64 x1] 37 (0, 0))) := Lib.hid (blk_new wr _)
      have HWA : Hid (Below wr.heap.size wr (wr.alloc (.cells #[.int .i64 x0, .int .i64 x1] 37 (0, 0)))) := Lib.hid (below_alloc (Below.refl _ _) _)
      have HW2 := Lib.hid (HW.out.trans (HWA.out.mono HW.out.size))
      clear HW HWA
      generalize wr.alloc (.cells #[.int .i64 x0, .int .i64 x1] 37 (0, 0)) = W at HC2 HW2 ⊢
      generalize wr.heap.size = q at HC2 ⊢
      have HT2 := Lib.hid (T.out.below HW2.out)
      have HI := Lib.hid (fun (W : World) (h : Tb W) => itoa_to x0 HI0.out W h)
      have HJ := Lib.hid (fun (W : World) (h : Tb W) => itoa_to x1 HI1.out W h)
      have hl0 := itoa_len x0 HI0.out
      have hl1 := itoa_len x1 HI1.out
      have hz0 : (⟨(Lib.itoa x0).toArray⟩ : ByteArray).size ≤ 20 := by simpa [ByteArray.size] using hl0
      have hz1 : (⟨(Lib.itoa x1).toArray⟩ : ByteArray).size ≤ 20 := by simpa [ByteArray.size] using hl1
      clear hl0 hl1
      generalize (⟨(Lib.itoa x0).toArray⟩ : ByteArray) = s0 at HI HTK hz0
      generalize (⟨(Lib.itoa x1).toArray⟩ : ByteArray) = s1 at HJ HTK hz1
      have h0 : ∀ w, (Op.stringOp .add s s0).run Tryd.prog w = .ok (.string (s ++ s0)) w := fun w => run_string_add_sum w _ _ (by omega)
      have hz : (s ++ s0 : ByteArray).size ≤ 4096 * 42 + 20 := by rw [ByteArray.size_append]; omega
      generalize (s ++ s0 : ByteArray) = c at h0 hz HTK
      have hA : ∀ w, (Op.stringOp .add c ⟨#[58]⟩).run Tryd.prog w = .ok (.string (c ++ ⟨#[58]⟩)) w := fun w => run_string_add_sum w _ _ (by have : (⟨#[58]⟩ : ByteArray).size = 1 := rfl; omega)
      have hzA : (c ++ ⟨#[58]⟩ : ByteArray).size ≤ 4096 * 42 + 21 := by rw [ByteArray.size_append]; have : (⟨#[58]⟩ : ByteArray).size = 1 := rfl; omega
      generalize (c ++ ⟨#[58]⟩ : ByteArray) = c0 at hA hzA HTK
      have hB : ∀ w, (Op.stringOp .add c0 s1).run Tryd.prog w = .ok (.string (c0 ++ s1)) w := fun w => run_string_add_sum w _ _ (by omega)
      have hzB : (c0 ++ s1 : ByteArray).size ≤ 4096 * 42 + 41 := by rw [ByteArray.size_append]; omega
      generalize (c0 ++ s1 : ByteArray) = c1 at hB hzB HTK
      have hC : ∀ w, (Op.stringOp .add c1 ⟨#[59]⟩).run Tryd.prog w = .ok (.string (c1 ++ ⟨#[59]⟩)) w := fun w => run_string_add_sum w _ _ (by have : (⟨#[59]⟩ : ByteArray).size = 1 := rfl; omega)
      generalize (c1 ++ ⟨#[59]⟩ : ByteArray) = c2 at hC HTK
      clear hz0 hz1 hzA hzB hz hsz
      go_region_held3 (fun w' => w'.cell? ⟨q, 0, none⟩ = some (.int .i64 x0) ∧ w'.cell? ⟨q, 1, none⟩ = some (.int .i64 x1))
        (first | exact ⟨blk_cell HC2.out 0, blk_cell HC2.out 1⟩ | exact ⟨pw_cell_below HB3.out (blk_cell HC2.out 0), pw_cell_below HB3.out (blk_cell HC2.out 1)⟩ | exact ⟨pw_cell_below HB4.out (pw_cell_below HB3.out (blk_cell HC2.out 0)), pw_cell_below HB4.out (pw_cell_below HB3.out (blk_cell HC2.out 1))⟩ | go_keep)
        (first
          | (go_at_call 17; refine (HI.out _ ?h1).mono ?_; (case h1 => first | exact HT2.out | exact HT2.out.below (pw_below_drewN (Below.refl _ _) 1)); rintro e w3 ⟨rfl, HB3⟩)
          | (go_at_call 17; refine (HJ.out _ ?h1).mono ?_; (case h1 => first | exact HT2.out.below HB3.out | exact (HT2.out.below (pw_below_drewN (Below.refl _ _) 1)).below HB3.out); rintro e w4 ⟨rfl, HB4⟩))
      go_wp2
      go_roundw
      case rel =>
        refine ⟨k + 1, c2, by omega, by simp, rfl, Lib.hid HTK.out.symm, Lib.hid ?_⟩
        first
          | exact (HW2.out.trans (HB3.out.mono HW2.out.size)).trans (HB4.out.mono (Nat.le_trans HW2.out.size HB3.out.size))
          | exact ((HW2.out.trans ((pw_below_drewN (Below.refl _ _) 1).mono HW2.out.size)).trans (HB3.out.mono HW2.out.size)).trans (HB4.out.mono (Nat.le_trans HW2.out.size HB3.out.size))
      case measure => simp [intOf]; omega
    · obtain rfl : k = n := by omega
      have HK : Hid (s = keyB l) := Lib.hid (by rw [HS.out, List.take_of_length_le (by rw [HN.out]; exact Nat.le_refl _)])
      go_wp2
      go_ret
      exact ⟨congrArg (fun z => Ending.returned (.string z)) HK.out, HW.out⟩
end Go.Proofs.YtdabedknidkimaaDoor.Vt
