/- wire.Table: the walk. -/
import Derived.Test.YtdabedknidkimaaDoorVkey
import Derived.Test.YtdabedknidkimaaDoorRx
namespace Go.Proofs.YtdabedknidkimaaDoor.Vt
open Go.RowKit Go.Proofs.YtdabedknidkimaaDoorW.PrintWords Go.Proofs.YtdabedknidkimaaDoorW.PrintLast Go.Proofs.YtdabedknidkimaaDoorW.PrintMore Go.Proofs.YtdabedknidkimaaDoorEv Go.Proofs.YtdabedknidkimaaDoorRx Go.Proofs.YtdabedknidkimaaDoor.X
set_option linter.unusedVariables false
set_option linter.unusedSimpArgs false
theorem in_to (lo hi x : Int) (b : Bool) (hb : decide (lo ≤ x ∧ x ≤ hi) = b) (g : Nat) (W : World) (hc : W.cell? ⟨g, 0, none⟩ = some (.int .i64 x)) :
    Calls Tryd.prog 32 #[.int .i64 lo, .int .i64 hi, .slice (some ⟨g, 0, none⟩) 1 1] W fun e w' => e = .returned (.bool b) ∧ Hid (Below W.heap.size W w') := by
  have h := in_one 0 lo hi x
  rw [hb] at h
  have hC : Kd.C (Kd.int .i64) W (some ⟨g, 0, none⟩) [x].length [x] := by
    refine ⟨rfl, by show 1 ≤ _; decide, fun _ => ⟨_, rfl, fun j p hp => ?_⟩⟩
    have hj : j = 0 := by
      have := (List.getElem?_eq_some_iff.1 hp).1
      simpa using this
    subst hj
    have hp' : x = p := by simpa using hp
    subst hp'
    refine ⟨[.int .i64 x], rfl, rfl, fun i u hu => ?_⟩
    match i, hu with
    | 0, hu =>
      have : Value.int .i64 x = u := by simpa using hu
      rw [← this]
      show W.cell? _ = _
      rw [Nat.zero_mul, Nat.add_zero, add_plain]
      exact hc
  refine (wire_in.calls 2 lo hi (some ⟨g, 0, none⟩) 1 [x] b W hC (Nat.le_refl _) h).mono ?_
  rintro e w' ⟨rfl, h⟩
  exact ⟨rfl, Lib.hid h.below⟩
theorem tbI_no {l : List S37} {d i : Nat} {off : Int} (hd : 0 < d) (h : fits l i off = false) : tbI l d i off = false := by
  obtain ⟨d, rfl⟩ : ∃ m, d = m + 1 := ⟨d - 1, by omega⟩
  show (fits l i off && _) = false
  rw [h]; rfl
theorem tbI_yes {l : List S37} {d i : Nat} {off : Int} (hd : 0 < d) (h : fits l i off = true) : tbI l d i off = tbI l (d - 1) (i + 1) (rd_T37 l i).f1 := by
  obtain ⟨d, rfl⟩ : ∃ m, d = m + 1 := ⟨d - 1, by omega⟩
  show (fits l i off && _) = _
  rw [h]; rfl
set_option maxRecDepth 100000 in
set_option maxHeartbeats 8000000 in
theorem Table_calls (A : Option Addr) (c : Nat) (l : List S37) (w : World) (hr : Kd.C k37 w A l.length l) (hl : l.length ≤ 4611686018427387904) :
    Calls Tryd.prog 27 #[.slice A l.length c] w fun e w' => e = .returned (.bool (tb l)) ∧ Hid (Below w.heap.size w w') := by
  have R := Lib.hid hr
  obtain ⟨n, hn⟩ : ∃ n, l.length = n := ⟨_, rfl⟩
  obtain ⟨r, hr'⟩ : ∃ r, tb l = r := ⟨_, rfl⟩
  have HN := Lib.hid hn
  have HT : Hid (tbI l n 0 0 = r) := Lib.hid (by rw [← hr', ← hn]; rfl)
  rw [hn] at hl ⊢
  rw [hr']
  clear hr hn hr'
  go_enter Tryd.func27, Tryd.ntmps27
  go_wp2
  go_loopw [3, 8] (fun v3 v8 wr => ∃ (k : Nat) (off : Int), k ≤ n ∧ v8 = .int .i64 k ∧ v3 = .int .i64 off ∧ Hid (tbI l (n - k) k off = r) ∧ Hid (prevOk l k off) ∧ Hid (Below w.heap.size w wr)) (fun _ v8 _ => n - (intOf v8).toNat)
  case atStart => exact ⟨0, 0, by omega, rfl, rfl, HT, Lib.hid ⟨by omega, .inl rfl⟩, Lib.hid (Below.refl _ _)⟩
  case round =>
    obtain ⟨k, off, hk, rfl, rfl, HS, HP, HW⟩ := hrel
    by_cases hlt : k < n
    · have hkl : k < l.length := by rw [HN.out]; exact hlt
      have hk1 : (k : Int) < (n : Int) := by omega
      have hs1 : -9223372036854775808 ≤ (k : Int) + 1 := by omega
      have hs2 : (k : Int) + 1 ≤ 9223372036854775807 := by omega
      obtain ⟨ad, e, hx⟩ := in37 R.out HW.out k hkl
      cases e
      obtain ⟨x, hxe⟩ : ∃ x, l[k] = x := ⟨_, rfl⟩
      have HX : Hid (rd_T37 l k = x) := Lib.hid (by rw [← hxe]; simp [rd_T37, List.getD_eq_getElem?_getD, hkl])
      rw [hxe] at hx
      have HC := Lib.hid hx
      clear hx hxe
      have HPV : Hid (∀ (hk0 : 0 < k), ∃ y : S37, rd_T37 l ((k : Int) - 1) = y ∧ 0 ≤ y.f0 ∧ y.f0 ≤ 1099511627776 ∧ ∀ W, Below w.heap.size w W → W.cell? ((ad.add (((k : Int) - 1).toNat * 2)).add 0) = some (.int .i64 y.f0)) := Lib.hid (fun hk0 => by
        have hk2 : ((k : Int) - 1).toNat = k - 1 := by omega
        have hk3 : k - 1 < l.length := by omega
        have e : rd_T37 l ((k : Int) - 1) = l[k - 1] := by
          rw [show ((k : Int) - 1) = ((k - 1 : Nat) : Int) by omega]
          simp [rd_T37, List.getD_eq_getElem?_getD, hk3]
        have hp := HP.out.2
        rw [e] at hp
        refine ⟨l[k - 1], e, ?_, ?_, fun W hW => ?_⟩
        · rcases hp with h | h <;> omega
        · rcases hp with h | h <;> omega
        · obtain ⟨ad', e', h⟩ := in37 R.out hW (k - 1) hk3
          cases e'
          rw [hk2]
          exact h 0 _ rfl)
      obtain ⟨x0, x1, e0, e1⟩ : ∃ x0 x1, x.f0 = x0 ∧ x.f1 = x1 := ⟨_, _, rfl, rfl⟩
      rw [e0, e1] at HC
      have HF : Hid (fits l k off = (decide (k < 32) && decide (0 ≤ x0 ∧ x0 ≤ 1099511627776) && decide (-32 ≤ x1 ∧ x1 ≤ 32) && (decide (k = 0) || decide (86400 ≤ x0 - (rd_T37 l ((k : Int) - 1)).f0)) && decide (x1 = off + 1 ∨ x1 = off - 1))) := Lib.hid (by unfold fits; rw [HX.out, e0, e1])
      have HE1 := Lib.hid e1
      have HO := Lib.hid HP.out.1
      clear e0 e1 HP
      go_wp2_with ((with_reducible refine gate_dst (N := 12) rfl ?_); refine load_cells rfl rfl (ad := ad.add (k * 2)) (cs := [.int .i64 x0, .int .i64 x1]) ?hx Tryd.underlying37 rfl (by kernel_rfl) HC.out ?_; (case hx => first | rfl | (go_simp; done) | (go_simp; rfl)))
      have HC2 : Hid ((wr.alloc (.cells #[.int .i64 x0, .int .i64 x1] 37 (0, 0))).heap[wr.heap.size]? = some (.cells #[.int .i64 x0, .int .i64 x1] 37 (0, 0))) := Lib.hid (blk_new wr _)
      have HWA : Hid (Below wr.heap.size wr (wr.alloc (.cells #[.int .i64 x0, .int .i64 x1] 37 (0, 0)))) := Lib.hid (below_alloc (Below.refl _ _) _)
      have HW2 := Lib.hid (HW.out.trans (HWA.out.mono HW.out.size))
      clear HW HWA
      generalize wr.alloc (.cells #[.int .i64 x0, .int .i64 x1] 37 (0, 0)) = W at HC2 HW2 ⊢
      generalize wr.heap.size = q at HC2 ⊢
      have hq0 : W.cell? ⟨q, 0, none⟩ = some (.int .i64 x0) := blk_cell HC2.out 0
      have hq1 : W.cell? ⟨q, 1, none⟩ = some (.int .i64 x1) := blk_cell HC2.out 1
      obtain ⟨b0, hb0⟩ : ∃ b, decide (0 ≤ x0 ∧ x0 ≤ 1099511627776) = b := ⟨_, rfl⟩
      obtain ⟨b1, hb1⟩ : ∃ b, decide (-32 ≤ x1 ∧ x1 ≤ 32) = b := ⟨_, rfl⟩
      have I0 := Lib.hid (in_to 0 1099511627776 x0 b0 hb0)
      have I1 := Lib.hid (in_to (-32) 32 x1 b1 hb1)
      rw [hb0, hb1] at HF
      have HB0 := Lib.hid hb0
      have HB1 := Lib.hid hb1
      clear hb0 hb1
      have hkn : 0 < n - k := by omega
      have HD := Lib.hid (fun h => (tbI_no hkn h).symm.trans HS.out)
      have HY := Lib.hid (fun h => (tbI_yes hkn h).symm.trans HS.out)
      rw [HX.out, HE1.out, show n - k - 1 = n - (k + 1) by omega] at HY
      have HNX := Lib.hid (fun h => fits_next (l := l) (i := k) (off := off) h)
      rw [HX.out, HE1.out] at HNX
      generalize hki : (k : Int) = ki at hk1 hs1 hs2 HPV HF ⊢
      have HKI := Lib.hid hki
      have hki0 : 0 ≤ ki := by omega
      clear HS HC HX HE1 hkn hki
      have HQ0 := Lib.hid hq0
      have HQ1 := Lib.hid hq1
      clear hq0 hq1
      by_cases c32 : 32 ≤ ki
      · have d32 : decide (32 ≤ ki) = true := decide_eq_true c32
        have HR : Hid (r = false) := Lib.hid (HD.out (by rw [HF.out, decide_eq_false (by have := HKI.out; omega)]; rfl)).symm
        clear c32
        refine rl_start (Below W.heap.size W) 46 (by kernel_rfl) rfl (pw_below_drewN (Below.refl _ _) 1) (fun HS => ?_)
        repeat (first
          | (refine rl_off (by kernel_rfl) (fun _ _ _ h => h) (by rfl) ?_; (try simp only [Act.put, List.setIfInBounds_toArray, List.set_cons_zero, List.set_cons_succ, Nat.reduceAdd]))
          | ((with_reducible refine rlg_load rfl ?_); refine rl_takeK (by kernel_rfl) (fun _ _ _ h => h) (by rfl) HS (fun W1 hS1 K hK => by have r0 := pw_cell_below hS1 HQ0.out; have r1 := pw_cell_below hS1 HQ1.out; go_simp; exact hK.out) ?_; (try simp only [Act.put, List.setIfInBounds_toArray, List.set_cons_zero, List.set_cons_succ, Nat.reduceAdd]))
          | ((with_reducible refine rlg_new rfl ?_); refine rl_newK (by kernel_rfl) (by rfl) (fun K hK => by go_simp; exact hK.out) (HS.trans ((below_alloc (Below.refl _ _) _).mono HS.size)) (fun H1 => ?_); clear HS; have HS := H1; clear H1; (try simp only [Act.put, List.setIfInBounds_toArray, List.set_cons_zero, List.set_cons_succ, Nat.reduceAdd]))
          | ((with_reducible refine rlg_call (f := 32) rfl ?_); refine rl_call 32 #[.int .i64 0, .int .i64 1099511627776, .slice (some ⟨_, 0, none⟩) 1 1] rfl (by kernel_rfl) (by rfl) Tryd.func32 (by kernel_rfl) rfl (by simp only [List.map_toArray, List.map_cons, List.map_nil]; rfl) ?_; (with_reducible refine (I0.out _ _ ?hc).mono ?_); (case hc => exact blk_cell (blk_new _ _) 0); rintro e w3 ⟨rfl, HB3⟩; refine ⟨_, rfl, HS.trans (HB3.out.mono HS.size), fun H1 => ?_⟩; clear HS HB3; have HS := H1; clear H1; (try simp only [Act.put, List.setIfInBounds_toArray, List.set_cons_zero, List.set_cons_succ, Nat.reduceAdd]))
          | ((with_reducible refine rlg_call (f := 32) rfl ?_); refine rl_call 32 #[.int .i64 (-32), .int .i64 32, .slice (some ⟨_, 0, none⟩) 1 1] rfl (by kernel_rfl) (by rfl) Tryd.func32 (by kernel_rfl) rfl (by simp only [List.map_toArray, List.map_cons, List.map_nil]; rfl) ?_; (with_reducible refine (I1.out _ _ ?hc).mono ?_); (case hc => exact blk_cell (blk_new _ _) 0); rintro e w3 ⟨rfl, HB3⟩; refine ⟨_, rfl, HS.trans (HB3.out.mono HS.size), fun H1 => ?_⟩; clear HS HB3; have HS := H1; clear H1; (try simp only [Act.put, List.setIfInBounds_toArray, List.set_cons_zero, List.set_cons_succ, Nat.reduceAdd]))
          | (refine rl_pureK (by kernel_rfl) (fun _ _ _ h => h) (by rfl) (fun W1 K hK => by go_simp; exact hK.out) ?_; (try simp only [Act.put, List.setIfInBounds_toArray, List.set_cons_zero, List.set_cons_succ, Nat.reduceAdd])))
        refine rl_done (by kernel_rfl) ?_
        have HZ := Lib.hid (HW2.out.trans (HS.mono HW2.out.size))
        clear HS
        go_wp2
        go_ret
        exact ⟨congrArg (fun z => Ending.returned (.bool z)) HR.out.symm, HZ⟩
      · have d32 : decide (32 ≤ ki) = false := decide_eq_false c32
        have e32 : decide (k < 32) = true := decide_eq_true (by have := HKI.out; omega)
        rw [e32, Bool.true_and] at HF
        clear c32 e32
        cases b0 with
        | false =>
          have HR : Hid (r = false) := Lib.hid (HD.out HF.out).symm
          refine rl_start (Below W.heap.size W) 46 (by kernel_rfl) rfl (pw_below_drewN (Below.refl _ _) 1) (fun HS => ?_)
          repeat (first
            | (refine rl_off (by kernel_rfl) (fun _ _ _ h => h) (by rfl) ?_; (try simp only [Act.put, List.setIfInBounds_toArray, List.set_cons_zero, List.set_cons_succ, Nat.reduceAdd]))
            | ((with_reducible refine rlg_load rfl ?_); refine rl_takeK (by kernel_rfl) (fun _ _ _ h => h) (by rfl) HS (fun W1 hS1 K hK => by have r0 := pw_cell_below hS1 HQ0.out; have r1 := pw_cell_below hS1 HQ1.out; go_simp; exact hK.out) ?_; (try simp only [Act.put, List.setIfInBounds_toArray, List.set_cons_zero, List.set_cons_succ, Nat.reduceAdd]))
            | ((with_reducible refine rlg_new rfl ?_); refine rl_newK (by kernel_rfl) (by rfl) (fun K hK => by go_simp; exact hK.out) (HS.trans ((below_alloc (Below.refl _ _) _).mono HS.size)) (fun H1 => ?_); clear HS; have HS := H1; clear H1; (try simp only [Act.put, List.setIfInBounds_toArray, List.set_cons_zero, List.set_cons_succ, Nat.reduceAdd]))
            | ((with_reducible refine rlg_call (f := 32) rfl ?_); refine rl_call 32 #[.int .i64 0, .int .i64 1099511627776, .slice (some ⟨_, 0, none⟩) 1 1] rfl (by kernel_rfl) (by rfl) Tryd.func32 (by kernel_rfl) rfl (by simp only [List.map_toArray, List.map_cons, List.map_nil]; rfl) ?_; (with_reducible refine (I0.out _ _ ?hc).mono ?_); (case hc => exact blk_cell (blk_new _ _) 0); rintro e w3 ⟨rfl, HB3⟩; refine ⟨_, rfl, HS.trans (HB3.out.mono HS.size), fun H1 => ?_⟩; clear HS HB3; have HS := H1; clear H1; (try simp only [Act.put, List.setIfInBounds_toArray, List.set_cons_zero, List.set_cons_succ, Nat.reduceAdd]))
            | ((with_reducible refine rlg_call (f := 32) rfl ?_); refine rl_call 32 #[.int .i64 (-32), .int .i64 32, .slice (some ⟨_, 0, none⟩) 1 1] rfl (by kernel_rfl) (by rfl) Tryd.func32 (by kernel_rfl) rfl (by simp only [List.map_toArray, List.map_cons, List.map_nil]; rfl) ?_; (with_reducible refine (I1.out _ _ ?hc).mono ?_); (case hc => exact blk_cell (blk_new _ _) 0); rintro e w3 ⟨rfl, HB3⟩; refine ⟨_, rfl, HS.trans (HB3.out.mono HS.size), fun H1 => ?_⟩; clear HS HB3; have HS := H1; clear H1; (try simp only [Act.put, List.setIfInBounds_toArray, List.set_cons_zero, List.set_cons_succ, Nat.reduceAdd]))
            | (refine rl_pureK (by kernel_rfl) (fun _ _ _ h => h) (by rfl) (fun W1 K hK => by go_simp; exact hK.out) ?_; (try simp only [Act.put, List.setIfInBounds_toArray, List.set_cons_zero, List.set_cons_succ, Nat.reduceAdd])))
          refine rl_done (by kernel_rfl) ?_
          have HZ := Lib.hid (HW2.out.trans (HS.mono HW2.out.size))
          clear HS
          go_wp2
          go_ret
          exact ⟨congrArg (fun z => Ending.returned (.bool z)) HR.out.symm, HZ⟩
        | true =>
          rw [Bool.true_and] at HF
          cases b1 with
          | false =>
            have HR : Hid (r = false) := Lib.hid (HD.out HF.out).symm
            refine rl_start (Below W.heap.size W) 46 (by kernel_rfl) rfl (pw_below_drewN (Below.refl _ _) 1) (fun HS => ?_)
            repeat (first
              | (refine rl_off (by kernel_rfl) (fun _ _ _ h => h) (by rfl) ?_; (try simp only [Act.put, List.setIfInBounds_toArray, List.set_cons_zero, List.set_cons_succ, Nat.reduceAdd]))
              | ((with_reducible refine rlg_load rfl ?_); refine rl_takeK (by kernel_rfl) (fun _ _ _ h => h) (by rfl) HS (fun W1 hS1 K hK => by have r0 := pw_cell_below hS1 HQ0.out; have r1 := pw_cell_below hS1 HQ1.out; go_simp; exact hK.out) ?_; (try simp only [Act.put, List.setIfInBounds_toArray, List.set_cons_zero, List.set_cons_succ, Nat.reduceAdd]))
              | ((with_reducible refine rlg_new rfl ?_); refine rl_newK (by kernel_rfl) (by rfl) (fun K hK => by go_simp; exact hK.out) (HS.trans ((below_alloc (Below.refl _ _) _).mono HS.size)) (fun H1 => ?_); clear HS; have HS := H1; clear H1; (try simp only [Act.put, List.setIfInBounds_toArray, List.set_cons_zero, List.set_cons_succ, Nat.reduceAdd]))
              | ((with_reducible refine rlg_call (f := 32) rfl ?_); refine rl_call 32 #[.int .i64 0, .int .i64 1099511627776, .slice (some ⟨_, 0, none⟩) 1 1] rfl (by kernel_rfl) (by rfl) Tryd.func32 (by kernel_rfl) rfl (by simp only [List.map_toArray, List.map_cons, List.map_nil]; rfl) ?_; (with_reducible refine (I0.out _ _ ?hc).mono ?_); (case hc => exact blk_cell (blk_new _ _) 0); rintro e w3 ⟨rfl, HB3⟩; refine ⟨_, rfl, HS.trans (HB3.out.mono HS.size), fun H1 => ?_⟩; clear HS HB3; have HS := H1; clear H1; (try simp only [Act.put, List.setIfInBounds_toArray, List.set_cons_zero, List.set_cons_succ, Nat.reduceAdd]))
              | ((with_reducible refine rlg_call (f := 32) rfl ?_); refine rl_call 32 #[.int .i64 (-32), .int .i64 32, .slice (some ⟨_, 0, none⟩) 1 1] rfl (by kernel_rfl) (by rfl) Tryd.func32 (by kernel_rfl) rfl (by simp only [List.map_toArray, List.map_cons, List.map_nil]; rfl) ?_; (with_reducible refine (I1.out _ _ ?hc).mono ?_); (case hc => exact blk_cell (blk_new _ _) 0); rintro e w3 ⟨rfl, HB3⟩; refine ⟨_, rfl, HS.trans (HB3.out.mono HS.size), fun H1 => ?_⟩; clear HS HB3; have HS := H1; clear H1; (try simp only [Act.put, List.setIfInBounds_toArray, List.set_cons_zero, List.set_cons_succ, Nat.reduceAdd]))
              | (refine rl_pureK (by kernel_rfl) (fun _ _ _ h => h) (by rfl) (fun W1 K hK => by go_simp; exact hK.out) ?_; (try simp only [Act.put, List.setIfInBounds_toArray, List.set_cons_zero, List.set_cons_succ, Nat.reduceAdd])))
            refine rl_done (by kernel_rfl) ?_
            have HZ := Lib.hid (HW2.out.trans (HS.mono HW2.out.size))
            clear HS
            go_wp2
            go_ret
            exact ⟨congrArg (fun z => Ending.returned (.bool z)) HR.out.symm, HZ⟩
          | true =>
            rw [Bool.true_and] at HF
            have HX1 : Hid (-32 ≤ x1 ∧ x1 ≤ 32) := Lib.hid (of_decide_eq_true HB1.out)
            have HX0 : Hid (0 ≤ x0 ∧ x0 ≤ 1099511627776) := Lib.hid (of_decide_eq_true HB0.out)
            have bo := HO.out
            have bx := HX1.out
            by_cases c0 : 0 < ki
            · have d0 : decide (0 < ki) = true := decide_eq_true c0
              obtain ⟨y, hy, hy0, hy1, hyc⟩ := HPV.out (by have := HKI.out; omega)
              have e0 : decide (k = 0) = false := decide_eq_false (by have := HKI.out; omega)
              rw [hy, e0, Bool.false_or] at HF
              generalize y.f0 = y0 at HF hy0 hy1 hyc
              clear hy e0
              obtain ⟨j1, hj1⟩ : ∃ j1, IntKind.i64.wrap (ki - 1) = j1 := ⟨_, rfl⟩
              have hj1' : j1 = ki - 1 := by rw [← hj1, i64_w]; unfold wrap64; omega
              have hj0 : 0 ≤ j1 := by omega
              have hjn : j1 < (n : Int) := by omega
              have HPC : Hid (∀ W1, Below W.heap.size W W1 → W1.cell? (ad.add (j1.toNat * 2)) = some (.int .i64 y0)) := Lib.hid (fun W1 h1 => by
                have := hyc W1 (HW2.out.trans (h1.mono HW2.out.size))
                rw [add_add, Nat.add_zero] at this
                rw [hj1']
                exact this)
              have bx0 := HX0.out
              obtain ⟨df, hdf⟩ : ∃ df, IntKind.i64.wrap (x0 - y0) = df := ⟨_, rfl⟩
              have hdf' : df = x0 - y0 := by rw [← hdf, i64_w]; unfold wrap64; omega
              by_cases c4 : df < 86400
              · have d4 : decide (df < 86400) = true := decide_eq_true c4
                have HR : Hid (r = false) := Lib.hid (HD.out (by rw [HF.out, decide_eq_false (by omega)]; rfl)).symm
                clear c0 c4 hyc hj1' hdf' bo bx bx0 hy0 hy1
                refine rl_start (Below W.heap.size W) 46 (by kernel_rfl) rfl (pw_below_drewN (Below.refl _ _) 1) (fun HS => ?_)
                repeat (first
                  | (refine rl_off (by kernel_rfl) (fun _ _ _ h => h) (by rfl) ?_; (try simp only [Act.put, List.setIfInBounds_toArray, List.set_cons_zero, List.set_cons_succ, Nat.reduceAdd]))
                  | ((with_reducible refine rlg_load rfl ?_); refine rl_takeK (by kernel_rfl) (fun _ _ _ h => h) (by rfl) HS (fun W1 hS1 K hK => by have r0 := pw_cell_below hS1 HQ0.out; have r1 := pw_cell_below hS1 HQ1.out; have r2 := HPC.out W1 hS1; go_simp; exact hK.out) ?_; (try simp only [Act.put, List.setIfInBounds_toArray, List.set_cons_zero, List.set_cons_succ, Nat.reduceAdd]))
                  | ((with_reducible refine rlg_new rfl ?_); refine rl_newK (by kernel_rfl) (by rfl) (fun K hK => by go_simp; exact hK.out) (HS.trans ((below_alloc (Below.refl _ _) _).mono HS.size)) (fun H1 => ?_); clear HS; have HS := H1; clear H1; (try simp only [Act.put, List.setIfInBounds_toArray, List.set_cons_zero, List.set_cons_succ, Nat.reduceAdd]))
                  | ((with_reducible refine rlg_call (f := 32) rfl ?_); refine rl_call 32 #[.int .i64 0, .int .i64 1099511627776, .slice (some ⟨_, 0, none⟩) 1 1] rfl (by kernel_rfl) (by rfl) Tryd.func32 (by kernel_rfl) rfl (by simp only [List.map_toArray, List.map_cons, List.map_nil]; rfl) ?_; (with_reducible refine (I0.out _ _ ?hc).mono ?_); (case hc => exact blk_cell (blk_new _ _) 0); rintro e w3 ⟨rfl, HB3⟩; refine ⟨_, rfl, HS.trans (HB3.out.mono HS.size), fun H1 => ?_⟩; clear HS HB3; have HS := H1; clear H1; (try simp only [Act.put, List.setIfInBounds_toArray, List.set_cons_zero, List.set_cons_succ, Nat.reduceAdd]))
                  | ((with_reducible refine rlg_call (f := 32) rfl ?_); refine rl_call 32 #[.int .i64 (-32), .int .i64 32, .slice (some ⟨_, 0, none⟩) 1 1] rfl (by kernel_rfl) (by rfl) Tryd.func32 (by kernel_rfl) rfl (by simp only [List.map_toArray, List.map_cons, List.map_nil]; rfl) ?_; (with_reducible refine (I1.out _ _ ?hc).mono ?_); (case hc => exact blk_cell (blk_new _ _) 0); rintro e w3 ⟨rfl, HB3⟩; refine ⟨_, rfl, HS.trans (HB3.out.mono HS.size), fun H1 => ?_⟩; clear HS HB3; have HS := H1; clear H1; (try simp only [Act.put, List.setIfInBounds_toArray, List.set_cons_zero, List.set_cons_succ, Nat.reduceAdd]))
                  | (refine rl_pureK (by kernel_rfl) (fun _ _ _ h => h) (by rfl) (fun W1 K hK => by go_simp; exact hK.out) ?_; (try simp only [Act.put, List.setIfInBounds_toArray, List.set_cons_zero, List.set_cons_succ, Nat.reduceAdd])))
                refine rl_done (by kernel_rfl) ?_
                have HZ := Lib.hid (HW2.out.trans (HS.mono HW2.out.size))
                clear HS
                go_wp2
                go_ret
                exact ⟨congrArg (fun z => Ending.returned (.bool z)) HR.out.symm, HZ⟩
              · have d4 : decide (df < 86400) = false := decide_eq_false c4
                rw [decide_eq_true (show 86400 ≤ x0 - y0 by omega), Bool.true_and] at HF
                clear c0 c4 hyc hj1' hdf' bx0 hy0 hy1
                by_cases z1 : x1 = off + 1
                · have hz : IntKind.i64.wrap (x1 - off) = 1 := by rw [i64_w]; unfold wrap64; omega
                  have HFT : Hid (fits l k off = true) := Lib.hid (by rw [HF.out, decide_eq_true (Or.inl z1)])
                  clear z1
                  refine rl_start (Below W.heap.size W) 46 (by kernel_rfl) rfl (pw_below_drewN (Below.refl _ _) 1) (fun HS => ?_)
                  repeat (first
                    | (refine rl_off (by kernel_rfl) (fun _ _ _ h => h) (by rfl) ?_; (try simp only [Act.put, List.setIfInBounds_toArray, List.set_cons_zero, List.set_cons_succ, Nat.reduceAdd]))
                    | ((with_reducible refine rlg_load rfl ?_); refine rl_takeK (by kernel_rfl) (fun _ _ _ h => h) (by rfl) HS (fun W1 hS1 K hK => by have r0 := pw_cell_below hS1 HQ0.out; have r1 := pw_cell_below hS1 HQ1.out; have r2 := HPC.out W1 hS1; go_simp; exact hK.out) ?_; (try simp only [Act.put, List.setIfInBounds_toArray, List.set_cons_zero, List.set_cons_succ, Nat.reduceAdd]))
                    | ((with_reducible refine rlg_new rfl ?_); refine rl_newK (by kernel_rfl) (by rfl) (fun K hK => by go_simp; exact hK.out) (HS.trans ((below_alloc (Below.refl _ _) _).mono HS.size)) (fun H1 => ?_); clear HS; have HS := H1; clear H1; (try simp only [Act.put, List.setIfInBounds_toArray, List.set_cons_zero, List.set_cons_succ, Nat.reduceAdd]))
                    | ((with_reducible refine rlg_call (f := 32) rfl ?_); refine rl_call 32 #[.int .i64 0, .int .i64 1099511627776, .slice (some ⟨_, 0, none⟩) 1 1] rfl (by kernel_rfl) (by rfl) Tryd.func32 (by kernel_rfl) rfl (by simp only [List.map_toArray, List.map_cons, List.map_nil]; rfl) ?_; (with_reducible refine (I0.out _ _ ?hc).mono ?_); (case hc => exact blk_cell (blk_new _ _) 0); rintro e w3 ⟨rfl, HB3⟩; refine ⟨_, rfl, HS.trans (HB3.out.mono HS.size), fun H1 => ?_⟩; clear HS HB3; have HS := H1; clear H1; (try simp only [Act.put, List.setIfInBounds_toArray, List.set_cons_zero, List.set_cons_succ, Nat.reduceAdd]))
                    | ((with_reducible refine rlg_call (f := 32) rfl ?_); refine rl_call 32 #[.int .i64 (-32), .int .i64 32, .slice (some ⟨_, 0, none⟩) 1 1] rfl (by kernel_rfl) (by rfl) Tryd.func32 (by kernel_rfl) rfl (by simp only [List.map_toArray, List.map_cons, List.map_nil]; rfl) ?_; (with_reducible refine (I1.out _ _ ?hc).mono ?_); (case hc => exact blk_cell (blk_new _ _) 0); rintro e w3 ⟨rfl, HB3⟩; refine ⟨_, rfl, HS.trans (HB3.out.mono HS.size), fun H1 => ?_⟩; clear HS HB3; have HS := H1; clear H1; (try simp only [Act.put, List.setIfInBounds_toArray, List.set_cons_zero, List.set_cons_succ, Nat.reduceAdd]))
                    | (refine rl_pureK (by kernel_rfl) (fun _ _ _ h => h) (by rfl) (fun W1 K hK => by go_simp; exact hK.out) ?_; (try simp only [Act.put, List.setIfInBounds_toArray, List.set_cons_zero, List.set_cons_succ, Nat.reduceAdd])))
                  refine rl_done (by kernel_rfl) ?_
                  have HZ := Lib.hid (HW2.out.trans (HS.mono HW2.out.size))
                  have r1 := pw_cell_below HS HQ1.out
                  clear HS
                  go_wp2
                  go_roundw
                  case rel => exact ⟨k + 1, x1, by omega, by rw [← HKI.out]; simp, rfl, Lib.hid (HY.out HFT.out), Lib.hid (HNX.out HFT.out), HZ⟩
                  case measure => simp [intOf]; have := HKI.out; omega
                · by_cases z2 : x1 = off - 1
                  · have hz : IntKind.i64.wrap (x1 - off) = -1 := by rw [i64_w]; unfold wrap64; omega
                    have HFT : Hid (fits l k off = true) := Lib.hid (by rw [HF.out, decide_eq_true (Or.inr z2)])
                    clear z1 z2
                    refine rl_start (Below W.heap.size W) 46 (by kernel_rfl) rfl (pw_below_drewN (Below.refl _ _) 1) (fun HS => ?_)
                    repeat (first
                      | (refine rl_off (by kernel_rfl) (fun _ _ _ h => h) (by rfl) ?_; (try simp only [Act.put, List.setIfInBounds_toArray, List.set_cons_zero, List.set_cons_succ, Nat.reduceAdd]))
                      | ((with_reducible refine rlg_load rfl ?_); refine rl_takeK (by kernel_rfl) (fun _ _ _ h => h) (by rfl) HS (fun W1 hS1 K hK => by have r0 := pw_cell_below hS1 HQ0.out; have r1 := pw_cell_below hS1 HQ1.out; have r2 := HPC.out W1 hS1; go_simp; exact hK.out) ?_; (try simp only [Act.put, List.setIfInBounds_toArray, List.set_cons_zero, List.set_cons_succ, Nat.reduceAdd]))
                      | ((with_reducible refine rlg_new rfl ?_); refine rl_newK (by kernel_rfl) (by rfl) (fun K hK => by go_simp; exact hK.out) (HS.trans ((below_alloc (Below.refl _ _) _).mono HS.size)) (fun H1 => ?_); clear HS; have HS := H1; clear H1; (try simp only [Act.put, List.setIfInBounds_toArray, List.set_cons_zero, List.set_cons_succ, Nat.reduceAdd]))
                      | ((with_reducible refine rlg_call (f := 32) rfl ?_); refine rl_call 32 #[.int .i64 0, .int .i64 1099511627776, .slice (some ⟨_, 0, none⟩) 1 1] rfl (by kernel_rfl) (by rfl) Tryd.func32 (by kernel_rfl) rfl (by simp only [List.map_toArray, List.map_cons, List.map_nil]; rfl) ?_; (with_reducible refine (I0.out _ _ ?hc).mono ?_); (case hc => exact blk_cell (blk_new _ _) 0); rintro e w3 ⟨rfl, HB3⟩; refine ⟨_, rfl, HS.trans (HB3.out.mono HS.size), fun H1 => ?_⟩; clear HS HB3; have HS := H1; clear H1; (try simp only [Act.put, List.setIfInBounds_toArray, List.set_cons_zero, List.set_cons_succ, Nat.reduceAdd]))
                      | ((with_reducible refine rlg_call (f := 32) rfl ?_); refine rl_call 32 #[.int .i64 (-32), .int .i64 32, .slice (some ⟨_, 0, none⟩) 1 1] rfl (by kernel_rfl) (by rfl) Tryd.func32 (by kernel_rfl) rfl (by simp only [List.map_toArray, List.map_cons, List.map_nil]; rfl) ?_; (with_reducible refine (I1.out _ _ ?hc).mono ?_); (case hc => exact blk_cell (blk_new _ _) 0); rintro e w3 ⟨rfl, HB3⟩; refine ⟨_, rfl, HS.trans (HB3.out.mono HS.size), fun H1 => ?_⟩; clear HS HB3; have HS := H1; clear H1; (try simp only [Act.put, List.setIfInBounds_toArray, List.set_cons_zero, List.set_cons_succ, Nat.reduceAdd]))
                      | (refine rl_pureK (by kernel_rfl) (fun _ _ _ h => h) (by rfl) (fun W1 K hK => by go_simp; exact hK.out) ?_; (try simp only [Act.put, List.setIfInBounds_toArray, List.set_cons_zero, List.set_cons_succ, Nat.reduceAdd])))
                    refine rl_done (by kernel_rfl) ?_
                    have HZ := Lib.hid (HW2.out.trans (HS.mono HW2.out.size))
                    have r1 := pw_cell_below HS HQ1.out
                    clear HS
                    go_wp2
                    go_roundw
                    case rel => exact ⟨k + 1, x1, by omega, by rw [← HKI.out]; simp, rfl, Lib.hid (HY.out HFT.out), Lib.hid (HNX.out HFT.out), HZ⟩
                    case measure => simp [intOf]; have := HKI.out; omega
                  · obtain ⟨z, hz⟩ : ∃ z, IntKind.i64.wrap (x1 - off) = z := ⟨_, rfl⟩
                    have hz' : z = x1 - off := by rw [← hz, i64_w]; unfold wrap64; omega
                    have hz1 : (z == 1) = false := by rw [beq_eq_false_iff_ne]; omega
                    have hz2 : (z == -1) = false := by rw [beq_eq_false_iff_ne]; omega
                    have hz3 : (z != 1) = true := by rw [bne, hz1]; rfl
                    have hz4 : (z != -1) = true := by rw [bne, hz2]; rfl
                    have HR : Hid (r = false) := Lib.hid (HD.out (by rw [HF.out, decide_eq_false (fun h => h.elim z1 z2)])).symm
                    clear z1 z2 hz'
                    refine rl_start (Below W.heap.size W) 46 (by kernel_rfl) rfl (pw_below_drewN (Below.refl _ _) 1) (fun HS => ?_)
                    repeat (first
                      | (refine rl_off (by kernel_rfl) (fun _ _ _ h => h) (by rfl) ?_; (try simp only [Act.put, List.setIfInBounds_toArray, List.set_cons_zero, List.set_cons_succ, Nat.reduceAdd]))
                      | ((with_reducible refine rlg_load rfl ?_); refine rl_takeK (by kernel_rfl) (fun _ _ _ h => h) (by rfl) HS (fun W1 hS1 K hK => by have r0 := pw_cell_below hS1 HQ0.out; have r1 := pw_cell_below hS1 HQ1.out; have r2 := HPC.out W1 hS1; go_simp; exact hK.out) ?_; (try simp only [Act.put, List.setIfInBounds_toArray, List.set_cons_zero, List.set_cons_succ, Nat.reduceAdd]))
                      | ((with_reducible refine rlg_new rfl ?_); refine rl_newK (by kernel_rfl) (by rfl) (fun K hK => by go_simp; exact hK.out) (HS.trans ((below_alloc (Below.refl _ _) _).mono HS.size)) (fun H1 => ?_); clear HS; have HS := H1; clear H1; (try simp only [Act.put, List.setIfInBounds_toArray, List.set_cons_zero, List.set_cons_succ, Nat.reduceAdd]))
                      | ((with_reducible refine rlg_call (f := 32) rfl ?_); refine rl_call 32 #[.int .i64 0, .int .i64 1099511627776, .slice (some ⟨_, 0, none⟩) 1 1] rfl (by kernel_rfl) (by rfl) Tryd.func32 (by kernel_rfl) rfl (by simp only [List.map_toArray, List.map_cons, List.map_nil]; rfl) ?_; (with_reducible refine (I0.out _ _ ?hc).mono ?_); (case hc => exact blk_cell (blk_new _ _) 0); rintro e w3 ⟨rfl, HB3⟩; refine ⟨_, rfl, HS.trans (HB3.out.mono HS.size), fun H1 => ?_⟩; clear HS HB3; have HS := H1; clear H1; (try simp only [Act.put, List.setIfInBounds_toArray, List.set_cons_zero, List.set_cons_succ, Nat.reduceAdd]))
                      | ((with_reducible refine rlg_call (f := 32) rfl ?_); refine rl_call 32 #[.int .i64 (-32), .int .i64 32, .slice (some ⟨_, 0, none⟩) 1 1] rfl (by kernel_rfl) (by rfl) Tryd.func32 (by kernel_rfl) rfl (by simp only [List.map_toArray, List.map_cons, List.map_nil]; rfl) ?_; (with_reducible refine (I1.out _ _ ?hc).mono ?_); (case hc => exact blk_cell (blk_new _ _) 0); rintro e w3 ⟨rfl, HB3⟩; refine ⟨_, rfl, HS.trans (HB3.out.mono HS.size), fun H1 => ?_⟩; clear HS HB3; have HS := H1; clear H1; (try simp only [Act.put, List.setIfInBounds_toArray, List.set_cons_zero, List.set_cons_succ, Nat.reduceAdd]))
                      | (refine rl_pureK (by kernel_rfl) (fun _ _ _ h => h) (by rfl) (fun W1 K hK => by go_simp; exact hK.out) ?_; (try simp only [Act.put, List.setIfInBounds_toArray, List.set_cons_zero, List.set_cons_succ, Nat.reduceAdd])))
                    refine rl_done (by kernel_rfl) ?_
                    have HZ := Lib.hid (HW2.out.trans (HS.mono HW2.out.size))
                    clear HS
                    go_wp2
                    go_ret
                    exact ⟨congrArg (fun z => Ending.returned (.bool z)) HR.out.symm, HZ⟩
            · have d0 : decide (0 < ki) = false := decide_eq_false c0
              rw [decide_eq_true (show k = 0 by have := HKI.out; omega), Bool.true_or, Bool.true_and] at HF
              clear c0
              by_cases z1 : x1 = off + 1
              · have hz : IntKind.i64.wrap (x1 - off) = 1 := by rw [i64_w]; unfold wrap64; omega
                have HFT : Hid (fits l k off = true) := Lib.hid (by rw [HF.out, decide_eq_true (Or.inl z1)])
                clear z1
                refine rl_start (Below W.heap.size W) 46 (by kernel_rfl) rfl (pw_below_drewN (Below.refl _ _) 1) (fun HS => ?_)
                repeat (first
                  | (refine rl_off (by kernel_rfl) (fun _ _ _ h => h) (by rfl) ?_; (try simp only [Act.put, List.setIfInBounds_toArray, List.set_cons_zero, List.set_cons_succ, Nat.reduceAdd]))
                  | ((with_reducible refine rlg_load rfl ?_); refine rl_takeK (by kernel_rfl) (fun _ _ _ h => h) (by rfl) HS (fun W1 hS1 K hK => by have r0 := pw_cell_below hS1 HQ0.out; have r1 := pw_cell_below hS1 HQ1.out; go_simp; exact hK.out) ?_; (try simp only [Act.put, List.setIfInBounds_toArray, List.set_cons_zero, List.set_cons_succ, Nat.reduceAdd]))
                  | ((with_reducible refine rlg_new rfl ?_); refine rl_newK (by kernel_rfl) (by rfl) (fun K hK => by go_simp; exact hK.out) (HS.trans ((below_alloc (Below.refl _ _) _).mono HS.size)) (fun H1 => ?_); clear HS; have HS := H1; clear H1; (try simp only [Act.put, List.setIfInBounds_toArray, List.set_cons_zero, List.set_cons_succ, Nat.reduceAdd]))
                  | ((with_reducible refine rlg_call (f := 32) rfl ?_); refine rl_call 32 #[.int .i64 0, .int .i64 1099511627776, .slice (some ⟨_, 0, none⟩) 1 1] rfl (by kernel_rfl) (by rfl) Tryd.func32 (by kernel_rfl) rfl (by simp only [List.map_toArray, List.map_cons, List.map_nil]; rfl) ?_; (with_reducible refine (I0.out _ _ ?hc).mono ?_); (case hc => exact blk_cell (blk_new _ _) 0); rintro e w3 ⟨rfl, HB3⟩; refine ⟨_, rfl, HS.trans (HB3.out.mono HS.size), fun H1 => ?_⟩; clear HS HB3; have HS := H1; clear H1; (try simp only [Act.put, List.setIfInBounds_toArray, List.set_cons_zero, List.set_cons_succ, Nat.reduceAdd]))
                  | ((with_reducible refine rlg_call (f := 32) rfl ?_); refine rl_call 32 #[.int .i64 (-32), .int .i64 32, .slice (some ⟨_, 0, none⟩) 1 1] rfl (by kernel_rfl) (by rfl) Tryd.func32 (by kernel_rfl) rfl (by simp only [List.map_toArray, List.map_cons, List.map_nil]; rfl) ?_; (with_reducible refine (I1.out _ _ ?hc).mono ?_); (case hc => exact blk_cell (blk_new _ _) 0); rintro e w3 ⟨rfl, HB3⟩; refine ⟨_, rfl, HS.trans (HB3.out.mono HS.size), fun H1 => ?_⟩; clear HS HB3; have HS := H1; clear H1; (try simp only [Act.put, List.setIfInBounds_toArray, List.set_cons_zero, List.set_cons_succ, Nat.reduceAdd]))
                  | (refine rl_pureK (by kernel_rfl) (fun _ _ _ h => h) (by rfl) (fun W1 K hK => by go_simp; exact hK.out) ?_; (try simp only [Act.put, List.setIfInBounds_toArray, List.set_cons_zero, List.set_cons_succ, Nat.reduceAdd])))
                refine rl_done (by kernel_rfl) ?_
                have HZ := Lib.hid (HW2.out.trans (HS.mono HW2.out.size))
                have r1 := pw_cell_below HS HQ1.out
                clear HS
                go_wp2
                go_roundw
                case rel => exact ⟨k + 1, x1, by omega, by rw [← HKI.out]; simp, rfl, Lib.hid (HY.out HFT.out), Lib.hid (HNX.out HFT.out), HZ⟩
                case measure => simp [intOf]; have := HKI.out; omega
              · by_cases z2 : x1 = off - 1
                · have hz : IntKind.i64.wrap (x1 - off) = -1 := by rw [i64_w]; unfold wrap64; omega
                  have HFT : Hid (fits l k off = true) := Lib.hid (by rw [HF.out, decide_eq_true (Or.inr z2)])
                  clear z1 z2
                  refine rl_start (Below W.heap.size W) 46 (by kernel_rfl) rfl (pw_below_drewN (Below.refl _ _) 1) (fun HS => ?_)
                  repeat (first
                    | (refine rl_off (by kernel_rfl) (fun _ _ _ h => h) (by rfl) ?_; (try simp only [Act.put, List.setIfInBounds_toArray, List.set_cons_zero, List.set_cons_succ, Nat.reduceAdd]))
                    | ((with_reducible refine rlg_load rfl ?_); refine rl_takeK (by kernel_rfl) (fun _ _ _ h => h) (by rfl) HS (fun W1 hS1 K hK => by have r0 := pw_cell_below hS1 HQ0.out; have r1 := pw_cell_below hS1 HQ1.out; go_simp; exact hK.out) ?_; (try simp only [Act.put, List.setIfInBounds_toArray, List.set_cons_zero, List.set_cons_succ, Nat.reduceAdd]))
                    | ((with_reducible refine rlg_new rfl ?_); refine rl_newK (by kernel_rfl) (by rfl) (fun K hK => by go_simp; exact hK.out) (HS.trans ((below_alloc (Below.refl _ _) _).mono HS.size)) (fun H1 => ?_); clear HS; have HS := H1; clear H1; (try simp only [Act.put, List.setIfInBounds_toArray, List.set_cons_zero, List.set_cons_succ, Nat.reduceAdd]))
                    | ((with_reducible refine rlg_call (f := 32) rfl ?_); refine rl_call 32 #[.int .i64 0, .int .i64 1099511627776, .slice (some ⟨_, 0, none⟩) 1 1] rfl (by kernel_rfl) (by rfl) Tryd.func32 (by kernel_rfl) rfl (by simp only [List.map_toArray, List.map_cons, List.map_nil]; rfl) ?_; (with_reducible refine (I0.out _ _ ?hc).mono ?_); (case hc => exact blk_cell (blk_new _ _) 0); rintro e w3 ⟨rfl, HB3⟩; refine ⟨_, rfl, HS.trans (HB3.out.mono HS.size), fun H1 => ?_⟩; clear HS HB3; have HS := H1; clear H1; (try simp only [Act.put, List.setIfInBounds_toArray, List.set_cons_zero, List.set_cons_succ, Nat.reduceAdd]))
                    | ((with_reducible refine rlg_call (f := 32) rfl ?_); refine rl_call 32 #[.int .i64 (-32), .int .i64 32, .slice (some ⟨_, 0, none⟩) 1 1] rfl (by kernel_rfl) (by rfl) Tryd.func32 (by kernel_rfl) rfl (by simp only [List.map_toArray, List.map_cons, List.map_nil]; rfl) ?_; (with_reducible refine (I1.out _ _ ?hc).mono ?_); (case hc => exact blk_cell (blk_new _ _) 0); rintro e w3 ⟨rfl, HB3⟩; refine ⟨_, rfl, HS.trans (HB3.out.mono HS.size), fun H1 => ?_⟩; clear HS HB3; have HS := H1; clear H1; (try simp only [Act.put, List.setIfInBounds_toArray, List.set_cons_zero, List.set_cons_succ, Nat.reduceAdd]))
                    | (refine rl_pureK (by kernel_rfl) (fun _ _ _ h => h) (by rfl) (fun W1 K hK => by go_simp; exact hK.out) ?_; (try simp only [Act.put, List.setIfInBounds_toArray, List.set_cons_zero, List.set_cons_succ, Nat.reduceAdd])))
                  refine rl_done (by kernel_rfl) ?_
                  have HZ := Lib.hid (HW2.out.trans (HS.mono HW2.out.size))
                  have r1 := pw_cell_below HS HQ1.out
                  clear HS
                  go_wp2
                  go_roundw
                  case rel => exact ⟨k + 1, x1, by omega, by rw [← HKI.out]; simp, rfl, Lib.hid (HY.out HFT.out), Lib.hid (HNX.out HFT.out), HZ⟩
                  case measure => simp [intOf]; have := HKI.out; omega
                · obtain ⟨z, hz⟩ : ∃ z, IntKind.i64.wrap (x1 - off) = z := ⟨_, rfl⟩
                  have hz' : z = x1 - off := by rw [← hz, i64_w]; unfold wrap64; omega
                  have hz1 : (z == 1) = false := by rw [beq_eq_false_iff_ne]; omega
                  have hz2 : (z == -1) = false := by rw [beq_eq_false_iff_ne]; omega
                  have hz3 : (z != 1) = true := by rw [bne, hz1]; rfl
                  have hz4 : (z != -1) = true := by rw [bne, hz2]; rfl
                  have HR : Hid (r = false) := Lib.hid (HD.out (by rw [HF.out, decide_eq_false (fun h => h.elim z1 z2)])).symm
                  clear z1 z2 hz'
                  refine rl_start (Below W.heap.size W) 46 (by kernel_rfl) rfl (pw_below_drewN (Below.refl _ _) 1) (fun HS => ?_)
                  repeat (first
                    | (refine rl_off (by kernel_rfl) (fun _ _ _ h => h) (by rfl) ?_; (try simp only [Act.put, List.setIfInBounds_toArray, List.set_cons_zero, List.set_cons_succ, Nat.reduceAdd]))
                    | ((with_reducible refine rlg_load rfl ?_); refine rl_takeK (by kernel_rfl) (fun _ _ _ h => h) (by rfl) HS (fun W1 hS1 K hK => by have r0 := pw_cell_below hS1 HQ0.out; have r1 := pw_cell_below hS1 HQ1.out; go_simp; exact hK.out) ?_; (try simp only [Act.put, List.setIfInBounds_toArray, List.set_cons_zero, List.set_cons_succ, Nat.reduceAdd]))
                    | ((with_reducible refine rlg_new rfl ?_); refine rl_newK (by kernel_rfl) (by rfl) (fun K hK => by go_simp; exact hK.out) (HS.trans ((below_alloc (Below.refl _ _) _).mono HS.size)) (fun H1 => ?_); clear HS; have HS := H1; clear H1; (try simp only [Act.put, List.setIfInBounds_toArray, List.set_cons_zero, List.set_cons_succ, Nat.reduceAdd]))
                    | ((with_reducible refine rlg_call (f := 32) rfl ?_); refine rl_call 32 #[.int .i64 0, .int .i64 1099511627776, .slice (some ⟨_, 0, none⟩) 1 1] rfl (by kernel_rfl) (by rfl) Tryd.func32 (by kernel_rfl) rfl (by simp only [List.map_toArray, List.map_cons, List.map_nil]; rfl) ?_; (with_reducible refine (I0.out _ _ ?hc).mono ?_); (case hc => exact blk_cell (blk_new _ _) 0); rintro e w3 ⟨rfl, HB3⟩; refine ⟨_, rfl, HS.trans (HB3.out.mono HS.size), fun H1 => ?_⟩; clear HS HB3; have HS := H1; clear H1; (try simp only [Act.put, List.setIfInBounds_toArray, List.set_cons_zero, List.set_cons_succ, Nat.reduceAdd]))
                    | ((with_reducible refine rlg_call (f := 32) rfl ?_); refine rl_call 32 #[.int .i64 (-32), .int .i64 32, .slice (some ⟨_, 0, none⟩) 1 1] rfl (by kernel_rfl) (by rfl) Tryd.func32 (by kernel_rfl) rfl (by simp only [List.map_toArray, List.map_cons, List.map_nil]; rfl) ?_; (with_reducible refine (I1.out _ _ ?hc).mono ?_); (case hc => exact blk_cell (blk_new _ _) 0); rintro e w3 ⟨rfl, HB3⟩; refine ⟨_, rfl, HS.trans (HB3.out.mono HS.size), fun H1 => ?_⟩; clear HS HB3; have HS := H1; clear H1; (try simp only [Act.put, List.setIfInBounds_toArray, List.set_cons_zero, List.set_cons_succ, Nat.reduceAdd]))
                    | (refine rl_pureK (by kernel_rfl) (fun _ _ _ h => h) (by rfl) (fun W1 K hK => by go_simp; exact hK.out) ?_; (try simp only [Act.put, List.setIfInBounds_toArray, List.set_cons_zero, List.set_cons_succ, Nat.reduceAdd])))
                  refine rl_done (by kernel_rfl) ?_
                  have HZ := Lib.hid (HW2.out.trans (HS.mono HW2.out.size))
                  clear HS
                  go_wp2
                  go_ret
                  exact ⟨congrArg (fun z => Ending.returned (.bool z)) HR.out.symm, HZ⟩
    · obtain rfl : k = n := by omega
      have HK : Hid (true = r) := Lib.hid (by have := HS.out; rw [Nat.sub_self] at this; exact this)
      go_wp2
      go_ret
      exact ⟨congrArg (fun z => Ending.returned (.bool z)) HK.out, HW⟩
end Go.Proofs.YtdabedknidkimaaDoor.Vt
