/- member: Tick: the walk. -/
import Derived.Test.YtcopnddmkmgihaaMt
namespace Go.Proofs.Ytcopnddmkmgihaa.Mb
open Go.RowKit Go.Maps Go.Sort Go.Shelf Go.ChangeMaps Go.MapKept Go.Proofs.YtcopnddmkmgihaaW.PrintWords Go.Proofs.YtcopnddmkmgihaaW.PrintLast Go.Proofs.YtcopnddmkmgihaaW.PrintMore Go.Proofs.YtcopnddmkmgihaaEv Go.Proofs.YtcopnddmkmgihaaRx
set_option linter.unusedVariables false
set_option linter.unusedSimpArgs false
theorem n_kept {w1 w4 : World} {base n : Nat} {u : Value} {xs : List Value} {cs : Array Value} {T : TypeId} (h : w1.ownsRow base 3 1 u n xs) (hg : (w1.alloc (.cells cs T (0, 0))).grownBy w4 u.ownBlock) : w4.heap[w1.heap.size]? = some (.cells cs T (0, 0)) := by
  refine (hg.block _ (blk_lt (blk_new w1 (.cells cs T (0, 0)))) ?_).trans (blk_new w1 _)
  rcases h.2 with ⟨rfl, _⟩ | ⟨g, cap, cur, rfl, _, h1, _⟩
  · intro e; cases e
  · intro e
    have := blk_lt h1
    have e2 : w1.heap.size = g := Option.some.inj e
    omega
theorem ranges_keep {P : Program} {k : TypeId} {R : Value → Option (DataW Unit × List MemPlace)} {w w1 : World} {b r n : Nat} {D : DataW Unit} {left : Lit → Bool} {cnt : Nat} (h : w.ranges P k R b r n D left cnt) (h1 : w1.heap[b]? = w.heap[b]?) (h2 : w1.heap[r]? = w.heap[r]?) : w1.ranges P k R b r n D left cnt := by
  obtain ⟨es, clock, since, seen, c0, hb, F, hs, hD, hr, rest⟩ := h
  exact ⟨es, clock, since, seen, c0, h1.trans hb, F, hs, hD, h2.trans hr, rest⟩
theorem gone_end {w w1 w4 : World} {t b r n m : Nat} {u u4 : Value} {xs ys : List Value} {va vq sq : Int} {D : DataW Unit} {left : Lit → Bool} {cnt : Nat} (hr : w.heap.size = r) (HRT : t < r ∧ b < r) (hs : r + 1 ≤ w1.heap.size) (HG1 : w.grownBy w1 (some b)) (HTB1 : w1.heap[t]? = some (.cells #[.map (some b)] 78 (0, 0)))
    (HRG1 : w1.ranges Try.prog 3 nearE b r 48 D left cnt) (HOW1 : w1.ownsRow (r + 1) 3 1 u n xs) (ho4 : w4.ownsRow (r + 1) 3 1 u4 m ys) (hb4 : Below (r + 1) (w1.alloc (.cells #[.int .i64 va, .int .i64 vq] 80 (0, 0))) w4) (hg4 : (w1.alloc (.cells #[.int .i64 va, .int .i64 vq] 80 (0, 0))).grownBy w4 u.ownBlock) :
    (w4.setCell ⟨w1.heap.size, 1, none⟩ (.int .i64 sq)).drew.heap[w1.heap.size]? = some (.cells #[.int .i64 va, .int .i64 sq] 80 (0, 0)) ∧ (w4.setCell ⟨w1.heap.size, 1, none⟩ (.int .i64 sq)).drew.heap[t]? = some (.cells #[.map (some b)] 78 (0, 0)) ∧ (w4.setCell ⟨w1.heap.size, 1, none⟩ (.int .i64 sq)).drew.ranges Try.prog 3 nearE b r 48 D left cnt ∧
      (w4.setCell ⟨w1.heap.size, 1, none⟩ (.int .i64 sq)).drew.ownsRow (r + 1) 3 1 u4 m ys ∧ w.grownBy (w4.setCell ⟨w1.heap.size, 1, none⟩ (.int .i64 sq)).drew (some b) ∧ r + 1 ≤ (w4.setCell ⟨w1.heap.size, 1, none⟩ (.int .i64 sq)).drew.heap.size := by
  have hn := n_kept HOW1 hg4
  have hsame : ∀ j, j ≠ w1.heap.size → (w4.setCell ⟨w1.heap.size, 1, none⟩ (.int .i64 sq)).heap[j]? = w4.heap[j]? := fun j hj => Below.heap_setCell w4 ⟨w1.heap.size, 1, none⟩ _ j hj
  have hlow : ∀ j, j < r + 1 → (w4.setCell ⟨w1.heap.size, 1, none⟩ (.int .i64 sq)).heap[j]? = w1.heap[j]? := fun j hj => by
    rw [hsame j (by omega), hb4.block j hj]
    exact (below_alloc (Below.refl w1.heap.size w1) _).block j (by omega)
  have hsz : w1.heap.size + 1 ≤ w4.heap.size := by have := hb4.size; simp at this; omega
  have hsz2 : (w4.setCell ⟨w1.heap.size, 1, none⟩ (.int .i64 sq)).heap.size = w4.heap.size := by simp [World.setCell]
  refine ⟨blk_set hn 1 _, (hlow t (by omega)).trans HTB1, ranges_keep HRG1 (hlow b (by omega)) (hlow r (by omega)), ?_, ?_, ?_⟩
  · have h1 : (w4.setCell ⟨w1.heap.size, 1, none⟩ (.int .i64 sq)).ownsRow (r + 1) 3 1 u4 m ys := by
      refine own_setCell ho4 ?_ _
      rcases ho4.2 with ⟨rfl, _⟩ | ⟨g, cap, cur, rfl, _, h2, _⟩
      · intro e; cases e
      · intro e
        have e2 : w1.heap.size = g := Option.some.inj e
        rw [e2, h2] at hn
        cases hn
    exact pw_own_below h1 (pw_below_drewN (Below.refl _ _) 1)
  · refine ⟨?_, ?_, ?_, ?_, fun i hi hne => ?_⟩
    · exact (show w4.os = w.os from hb4.os.trans HG1.os)
    · exact (show w4.tape = w.tape from hb4.tape.trans HG1.tape)
    · exact (show w4.output = w.output from hb4.output.trans HG1.output)
    · show w.heap.size ≤ (w4.setCell ⟨w1.heap.size, 1, none⟩ (.int .i64 sq)).heap.size
      omega
    · exact (hlow i (by omega)).trans (HG1.block i hi hne)
  · show r + 1 ≤ (w4.setCell ⟨w1.heap.size, 1, none⟩ (.int .i64 sq)).heap.size
    omega
set_option maxRecDepth 100000 in
set_option maxHeartbeats 8000000 in
theorem Tick_calls (w : World) (t b : Nat) (f : FT) (h : Tab w t b f) (hgood : GoodF f) (p : Int) :
    Calls Try.prog 27 #[.pointer (some ⟨t, 0, none⟩), .int .i64 p] w fun e w' => ∃ v, e = .returned v ∧ Hid (w'.ownsRow w.heap.size 3 1 v (goneF p f).length ((goneF p f).map (Value.int .i64))) ∧ Hid (Tab w' t b (tickF p f)) ∧ Hid (w.grownBy w' (some b)) := by
  have c0 : w.cell? ⟨t, 0, none⟩ = some (.map (some b)) := blk_cell h.blk 0
  have HT := Lib.hid h
  have HGD := Lib.hid hgood
  obtain ⟨D, hown, hab⟩ := h.map
  have HO := Lib.hid hown
  have HA := Lib.hid hab
  obtain ⟨i0, hi0, hz0, hz1, hz2⟩ := info_parts info3
  clear h hown hab hgood
  go_enter Try.func27, Try.ntmps27
  go_wp2_with (at_range; refine wpList_range_own _ rfl _ 76 rfl 3 80 law3 Try.underlying76 nearE b 48 D rfl HO.out ?_; intro w0 hrg0 hg0 hs0; have HR0 := Lib.hid hrg0; have HG0 := Lib.hid hg0; have HS0 := Lib.hid hs0; clear hrg0 hg0 hs0)
  go_frame
  obtain ⟨r, hr⟩ : ∃ r, w.heap.size = r := ⟨_, rfl⟩
  have HRE := Lib.hid hr
  rw [hr] at HR0 HS0 ⊢
  clear hr
  have HRT : Hid (t < r ∧ b < r) := Lib.hid (by have := HT.out.lt; have := HRE.out; omega)
  go_loopw [5] (fun v5 wr => ∃ (left : Lit → Bool) (cnt : Nat) (D' : DataW Unit) (gl : List Int) (u : Value), u = v5 ∧ Hid (wr.ranges Try.prog 3 nearE b r 48 D' left cnt) ∧ Hid (Ph p f D' left gl) ∧ Hid (wr.ownsRow (r + 1) 3 1 u gl.length (gl.map (Value.int .i64))) ∧ Hid (w.grownBy wr (some b)) ∧ Hid (wr.heap[t]? = some (.cells #[.map (some b)] 78 (0, 0))) ∧ Hid (r + 1 ≤ wr.heap.size)) (fun _ wr => wr.rangeLeft b r)
  case atStart => exact ⟨_, _, D, [], _, rfl, HR0, Lib.hid (Ph.start HA.out), Lib.hid (World.ownsRow_nil _ _ _ _), Lib.hid (HG0.out.but _), Lib.hid ((HG0.out.block t HT.out.lt.1 (by simp)).trans HT.out.blk), Lib.hid (by rw [HS0.out]; exact Nat.le_refl _)⟩
  case round =>
    clear HR0 HG0 HS0 HO HA
    obtain ⟨left, cnt, D', gl, u, hu, HRG, HPH, HOW, HGW, HTB, HSZ⟩ := hrel
    subst hu
    go_wp2_with (at_next; refine wl_next rfl _ rfl b r D' left cnt rfl HRG.out ?_ ?_)
    · intro hl0
      obtain ⟨hab, hpe⟩ := HPH.out.done hl0
      have HAB := Lib.hid hab
      have HPE := Lib.hid hpe
      have HMM := Lib.hid HPH.out.mem
      have HOM := Lib.hid HRG.out.owns
      have hm48 := HPH.out.len
      obtain ⟨m, hm⟩ : ∃ m, gl.length = m := ⟨_, rfl⟩
      have HM := Lib.hid hm
      have HSHAPE : Hid (∃ A c, u = .slice A m c ∧ (A = none → m = 0)) := Lib.hid (by
        rcases HOW.out.2 with ⟨h1, h2⟩ | ⟨g, cap, cur, h1, _⟩
        · exact ⟨none, 0, by rw [h1, ← hm, h2], fun _ => by omega⟩
        · exact ⟨_, cap, by rw [h1, hm], fun h => by cases h⟩)
      rw [hm] at HOW hm48
      obtain ⟨A, c, hu, hA0⟩ := HSHAPE.out
      have HA0 := Lib.hid hA0
      subst hu
      have HWM0 : Hid (∃ D2, wr.ownsMap Try.prog 3 nearE b 48 D2 ∧ Ab D2 (dropL (stepF p f) (gl.take 0))) := Lib.hid ⟨D', HOM.out, HAB.out⟩
      clear hab hpe hm hA0 hl0 HRG HPH HSZ HAB HOM HSHAPE c0
      go_wp2_with fail
      go_loopw [59] (fun v59 w' => ∃ i : Nat, i ≤ m ∧ v59 = .int .i64 i ∧ Hid (∃ D2, w'.ownsMap Try.prog 3 nearE b 48 D2 ∧ Ab D2 (dropL (stepF p f) (gl.take i))) ∧ Hid (w'.ownsRow (r + 1) 3 1 (.slice A m c) m (gl.map (Value.int .i64))) ∧ Hid (w.grownBy w' (some b)) ∧ Hid (w'.heap[t]? = some (.cells #[.map (some b)] 78 (0, 0)))) (fun v59 _ => m - (intOf v59).toNat)
      case atStart => exact ⟨0, by omega, rfl, HWM0, HOW, HGW, HTB⟩
      case round =>
        clear HWM0 HOW HGW HTB
        obtain ⟨wt, hwt⟩ : ∃ wt : World, wt = wr := ⟨wr, rfl⟩
        subst hwt
        obtain ⟨i, hi, rfl, HWM, HOW, HGW, HTB⟩ := hrel
        have c2 : wt.cell? ⟨t, 0, none⟩ = some (.map (some b)) := blk_cell HTB.out 0
        by_cases hlt : i < m
        · have hil : i < gl.length := by rw [HM.out]; exact hlt
          have hk1 : (i : Int) < (m : Int) := by omega
          have hs1 : -9223372036854775808 ≤ (i : Int) + 1 := by omega
          have hs2 : (i : Int) + 1 ≤ 9223372036854775807 := by omega
          obtain ⟨x, hx⟩ : ∃ x, gl[i] = x := ⟨_, rfl⟩
          have HTK : Hid (gl.take (i + 1) = gl.take i ++ [x]) := Lib.hid (by rw [List.take_succ_eq_append_getElem hil, hx])
          obtain ⟨kx, hkx, ekx, _⟩ := (HMM.out x).1 (hx ▸ List.getElem_mem hil)
          have HKX := Lib.hid hkx
          have HEX := Lib.hid ekx
          obtain ⟨g, hg, hcell⟩ : ∃ g, A = some ⟨g, 0, none⟩ ∧ wt.cell? ⟨g, i, none⟩ = some (.int .i64 x) := by
            rcases HOW.out.2 with ⟨h1, h2⟩ | ⟨g, cap, cur, h1, _, h2, _, _, _, h3⟩
            · omega
            · injection h1 with h1 _ _
              refine ⟨g, h1, ?_⟩
              rw [blk_cell h2, ← Array.getElem?_toList]
              have e : (cur.toList.take (m * 1))[i]? = (gl.map (Value.int .i64))[i]? := by rw [h3]
              rw [List.getElem?_take_of_lt (by omega), List.getElem?_map, List.getElem?_eq_getElem hil, hx] at e
              exact e
          subst hg
          obtain ⟨D2, ho2, ha2⟩ := HWM.out
          have HO2 := Lib.hid ho2
          have HA2 := Lib.hid ha2
          have HW2 := Lib.hid (keyOf_int_mk Try.underlying3 (wf_who (k := x) (by omega)))
          have HGB : Hid (b < r + 1) := Lib.hid (by have := HRT.out.2; omega)
          clear hx hkx ekx ho2 ha2 HWM
          go_wp2_with (at_delete; refine wpList_delete_own _ rfl _ _ 76 3 rfl 80 law3 Try.underlying76 nearE b 48 D2 rfl HO2.out _ (ky x) rfl HW2.out ?_; intro w5 ho5 ht5; have HO5 := Lib.hid ho5; have HT5 := Lib.hid ht5.grown; clear ho5 ht5)
          go_roundw
          case rel =>
            refine ⟨i + 1, by omega, by simp, Lib.hid ⟨_, HO5.out, ?_⟩, Lib.hid (own_other HOW.out HT5.out (.inr (fun e => ?_))), Lib.hid (HGW.out.andThen HT5.out (fun j e => .inr e)), Lib.hid ((HT5.out.block t (blk_lt HTB.out) (fun e => HT.out.ne (Option.some.inj e))).trans HTB.out)⟩
            · rw [HTK.out]
              unfold dropL
              rw [List.foldl_append]
              show Ab _ (dropF (dropL (stepF p f) (gl.take i)) x)
              unfold dropF
              have hx2 := HEX.out
              have hx3 := HKX.out
              rw [if_pos (by omega)]
              have := HA2.out.del (k := x.toNat) (by omega)
              rw [show ((x.toNat : Nat) : Int) = x by omega] at this
              exact this
            · have e2 : g = b := Option.some.inj e
              rcases HOW.out.2 with ⟨h1, _⟩ | ⟨g', cap, cur, h1, h2, _⟩
              · cases h1
              · injection h1 with h1 _ _
                have h1 := Option.some.inj h1
                have h1 : g = g' := by injection h1
                have := HGB.out
                omega
          case measure => simp [intOf]; omega
        · obtain rfl : i = m := by omega
          have HTK : Hid (gl.take i = gl) := Lib.hid (List.take_of_length_le (by rw [HM.out]; exact Nat.le_refl _))
          obtain ⟨D2, ho2, ha2⟩ := HWM.out
          rw [HTK.out] at ha2
          have HO2 := Lib.hid ho2
          have HA2 := Lib.hid (ha2.congr (drop_tick HPE.out))
          have HGL : Hid ((goneF p f).length = i) := Lib.hid (by rw [← HPE.out.length_eq, HM.out])
          have HSO : Hid (gl.mergeSort (fun x y => decide (x ≤ y)) = goneF p f) := Lib.hid (nums_sorted _ HPE.out)
          clear ho2 ha2 HWM c2
          rcases HOW.out.2 with ⟨h1, h2⟩ | ⟨g, cap, cur, h1, hge, hgb, h3, h4, h5, h6⟩
          · injection h1 with h1 _ h3
            subst h1 h3 h2
            have cS : ∀ W, Calls Try.prog 42 #[.slice none 0 0] W fun e w' => e = .returned (.tuple #[]) ∧ w' = W := fun W => AnyM.slices_Sort_int_none Try.sortA none 0 W
            go_wp2_with (go_at_call 42; refine (cS _).mono ?_; rintro e w' ⟨rfl, rfl⟩)
            go_ret
            refine ⟨_, rfl, Lib.hid ?_, Lib.hid ⟨HTB.out, _, HO2.out, HA2.out⟩, HGW⟩
            have : goneF p f = [] := List.eq_nil_of_length_eq_zero HGL.out
            rw [this]
            exact World.ownsRow_nil _ _ _ _
          · injection h1 with h1 _ h7
            subst h1 h7
            have hH : Holds encZ wt g 0 gl.toArray := holds_of_block_i hgb (by rw [HM.out]; simpa using h6)
            have HGT := Lib.hid (blk_lt hgb)
            have cS := AnyM.slices_Sort_int Try.sortA g 0 c gl wt hH HGT.out (by rw [HM.out]; omega)
            rw [HM.out] at cS
            have CS := Lib.hid cS
            have HOR := Lib.hid (fun (n : Nat) (os : Array Obj) => ownsRow_sorted_i (n := n) (os := os) (ss := gl) (ts := gl.mergeSort (fun x y => decide (x ≤ y))) (base := r + 1) (List.length_mergeSort _) hge hgb (by rw [HM.out]; exact h3) h4 h5)
            have HNB : Hid (g ≠ b ∧ g ≠ t) := Lib.hid (by have := HRT.out; omega)
            clear hH cS hgb h3 h4 h5 h6 hge
            go_wp2_with fail
            refine CS.out.mono ?_
            rintro e w6 ⟨rfl, nn, os, rfl⟩
            have HSG := Lib.hid (grownBy_sorted_i (w := wt) (g := g) (n := nn) (os := os) (gl.mergeSort (fun x y => decide (x ≤ y))).toArray)
            have HRES := Lib.hid (HOR.out nn os)
            generalize grow (putRow encZ (Sort.ahead wt nn) g 0 (gl.mergeSort (fun x y => decide (x ≤ y))).toArray) os = w6 at HSG HRES ⊢
            go_wp2_with fail
            go_ret
            refine ⟨_, rfl, Lib.hid ?_, Lib.hid ⟨(HSG.out.block t (blk_lt HTB.out) (fun e => HNB.out.2 (Option.some.inj e).symm)).trans HTB.out, _, HO2.out.kept HSG.out (fun e => HNB.out.1 (Option.some.inj e).symm), HA2.out⟩, Lib.hid (HGW.out.andThen HSG.out (fun j e => .inl (by cases e; have := HRE.out; have := HOW.out.lt g rfl; omega)))⟩
            have := HRES.out
            rw [HSO.out, HM.out] at this
            rw [HGL.out]
            exact ownsRow_base_a this (by have := HRE.out; omega)
    · intro x va vq w1 cnt1 hlx hat hrg1 hlt hg1 hs1 hen
      have HEN := Lib.hid hen
      have HRG1 := Lib.hid hrg1
      have HLT := Lib.hid hlt
      have HLX := Lib.hid hlx
      have HG1 : Hid (w.grownBy w1 (some b)) := Lib.hid (HGW.out.andThen hg1 (fun j e => .inl (by cases e; exact Nat.le_of_eq HRE.out)))
      have HTB1 : Hid (w1.heap[t]? = some (.cells #[.map (some b)] 78 (0, 0))) := Lib.hid ((hg1.block t (blk_lt HTB.out) (fun e => by have := HRT.out.1; have := Option.some.inj e; omega)).trans HTB.out)
      have HOW1 : Hid (w1.ownsRow (r + 1) 3 1 u gl.length (gl.map (Value.int .i64))) := Lib.hid (own_other HOW.out hg1 (by
        rcases HOW.out.2 with ⟨rfl, _⟩ | ⟨g, cap, cur, rfl, h1, _⟩
        · exact .inl rfl
        · exact .inr (fun e => by have : g = r := Option.some.inj e; omega)))
      have HSZ1 : Hid (r + 1 ≤ w1.heap.size) := Lib.hid (by rw [hs1]; exact HSZ.out)
      obtain ⟨k, hk, ek⟩ := HPH.out.only _ (HPH.out.lh _ hlx)
      have ex : x = (k : Int) := by injection ek
      subst ex
      have HK := Lib.hid hk
      obtain ⟨v, hv⟩ : ∃ v, f k = some v := by
        have h1 := HPH.out.has k hk
        rw [HPH.out.lh _ hlx] at h1
        cases hf : f k with
        | none => rw [hf] at h1; cases h1
        | some v => exact ⟨v, rfl⟩
      have hvv : v = (va, vq) := pr_inj (((HPH.out.at0 k v hk hv hlx) .nil).symm.trans (hat .nil))
      subst hvv
      have HV := Lib.hid hv
      obtain ⟨⟨b1, b2⟩, b3, b4⟩ := HGD.out k _ hv
      dsimp only at b1 b2 b3 b4
      have HST := Lib.hid (HPH.out.step HRG.out.owns.isMap hk hv hlx)
      have c1 : w1.cell? ⟨t, 0, none⟩ = some (.map (some b)) := blk_cell HTB1.out 0
      clear hen hrg1 hlt hlx hg1 hs1 ek hat hk hv HOW HGW HTB HSZ c0
      by_cases hz : vq = 0
      · subst hz
        have hen2 := HEN.out
        have HGP : Hid (goneP p (va, 0) = false) := Lib.hid (by simp [goneP])
        have HSV : Hid (stepV p (va, 0) = (min (va + 1) 1073741824, min 1 1073741824)) := Lib.hid (by unfold stepV; rw [HGP.out]; rfl)
        go_wp2
        clear hen2
        generalize min (va + 1) 1073741824 = sa at HSV ⊢
        generalize (min 1 1073741824 : Int) = sq at HSV ⊢
        have HB1 : Hid (Below w1.heap.size w1 (w1.alloc (.cells #[.int .i64 sa, .int .i64 sq] 80 (0, 0)))) := Lib.hid (below_alloc (Below.refl _ _) _)
        have HQ1 : Hid ((w1.alloc (.cells #[.int .i64 sa, .int .i64 sq] 80 (0, 0))).heap[w1.heap.size]? = some (.cells #[.int .i64 sa, .int .i64 sq] 80 (0, 0))) := Lib.hid (blk_new w1 _)
        generalize w1.alloc (.cells #[.int .i64 sa, .int .i64 sq] 80 (0, 0)) = W at HB1 HQ1 ⊢
        have HB2 := Lib.hid (HB1.out.trans (pw_below_drewN (Below.refl _ W) 1))
        have HQ2 : Hid (W.drew.heap[w1.heap.size]? = some (.cells #[.int .i64 sa, .int .i64 sq] 80 (0, 0))) := Lib.hid HQ1.out
        have HTB2 : Hid (W.drew.heap[t]? = some (.cells #[.map (some b)] 78 (0, 0))) := Lib.hid ((HB2.out.block t (blk_lt HTB1.out)).trans HTB1.out)
        have HRG2 := Lib.hid (HRG1.out.kept (grown_of_below HB2.out none) (by simp) (by simp))
        have HOW2 := Lib.hid (pw_own_below HOW1.out HB2.out)
        have HG2 : Hid (w.grownBy W.drew (some b)) := Lib.hid (HG1.out.andThen (grown_of_below HB2.out none) (fun j e => by cases e))
        have HSZ2 : Hid (r + 1 ≤ W.drew.heap.size) := Lib.hid (Nat.le_trans HSZ1.out HB2.out.size)
        have HQN : Hid (r + 1 ≤ w1.heap.size) := HSZ1
        generalize w1.heap.size = q at HQ1 HQ2 HQN HB1 HB2 ⊢
        clear HB1 HQ1 HB2 HRG1 HTB1 HOW1 HG1 HSZ1 c1
        obtain ⟨w3, hrun, hrg3, hmt⟩ := ranges_put HRG2.out law3 Try.underlying76 (keyOf_int_mk Try.underlying3 (wf_who (k := (k : Int)) (by have := HK.out; omega))) (by simp [same_ky]) (by have := HPH.out.has k HK.out; rw [HV.out] at this; exact this) (nearE_mk (sa, sq))
        have HRUN := Lib.hid hrun
        have HR3 := Lib.hid hrg3
        have HM3 := Lib.hid hmt.grown
        clear hrun hrg3 hmt
        refine rl_start (fun W' => W'.cell? ⟨t, 0, none⟩ = some (.map (some b)) ∧ W'.heap[q]? = some (.cells #[.int .i64 sa, .int .i64 sq] 80 (0, 0))) 7 (by kernel_rfl) rfl ⟨blk_cell HTB2.out 0, HQ2.out⟩ (fun HS => ?_)
        repeat (first
          | ((with_reducible refine rlg_load (ty := 76) rfl ?_); refine rl_cell (ad := ⟨t, 0, none⟩) (v := .map (some b)) rfl (by kernel_rfl) (fun _ _ _ h => h) (by rfl) HS (by rfl) Try.underlying76 rfl (fun W hW => hW.1) ?_; (try simp only [Act.put, List.setIfInBounds_toArray, List.set_cons_zero, List.set_cons_succ, Nat.reduceAdd]))
          | ((with_reducible refine rlg_load (ty := 80) rfl ?_); refine rl_cells (ad := ⟨q, 0, none⟩) (cs := [.int .i64 sa, .int .i64 sq]) rfl (by kernel_rfl) (fun _ _ _ h => h) (by rfl) HS (by rfl) Try.underlying80 rfl (by kernel_rfl) (fun W hW j u hu => by rw [add_plain, blk_cell hW.2]; simpa using hu) ?_; (try simp only [Act.put, List.setIfInBounds_toArray, List.set_cons_zero, List.set_cons_succ, Nat.reduceAdd]))
          | (refine rl_map (b := b) (key := .int .i64 k) (val := .agg #[.int .i64 sa, .int .i64 sq]) rfl (by kernel_rfl) (by rfl) (by rfl) (by rfl) (by rfl) HRUN.out ⟨blk_cell ((HM3.out.block t (blk_lt HTB2.out) (fun e => HT.out.ne (Option.some.inj e))).trans HTB2.out) 0, (HM3.out.block q (blk_lt HQ2.out) (fun e => by have := HRT.out.2; have := HQN.out; have := Option.some.inj e; omega)).trans HQ2.out⟩ (fun _ => ?_); (try simp only [Act.put, List.setIfInBounds_toArray, List.set_cons_zero, List.set_cons_succ, Nat.reduceAdd]))
          | (refine rl_pureK (by kernel_rfl) (fun _ _ _ h => h) (by rfl) (fun W K hK => by go_simp; exact hK.out) ?_; (try simp only [Act.put, List.setIfInBounds_toArray, List.set_cons_zero, List.set_cons_succ, Nat.reduceAdd])))
        refine rl_done (by kernel_rfl) ?_
        go_wp2
        go_roundw
        case rel =>
          refine ⟨_, cnt1, _, gl, u, rfl, HR3, Lib.hid ?_, Lib.hid (own_other HOW2.out HM3.out ?_), Lib.hid (HG2.out.andThen HM3.out (fun j e => .inr e)), Lib.hid ((HM3.out.block t (blk_lt HTB2.out) (fun e => HT.out.ne (Option.some.inj e))).trans HTB2.out), Lib.hid (Nat.le_trans HSZ2.out HM3.out.size)⟩
          · have := HST.out
            rw [HSV.out, HGP.out] at this
            simpa using this
          · rcases HOW2.out.2 with ⟨e, _⟩ | ⟨g, cap, cur, e, h1, _⟩
            · exact .inl (by rw [e]; rfl)
            · refine .inr (fun e2 => ?_)
              rw [e] at e2
              have : g = b := Option.some.inj e2
              have := HRT.out.2
              omega
        case measure =>
          have h1 := HR3.out.left_eq
          have h2 := HRG.out.left_eq
          have h3 := HLT.out
          omega
      · by_cases hp : p < vq
        · have d1 : decide (0 < vq) = true := decide_eq_true (by omega)
          have d2 : decide (p < vq) = true := decide_eq_true hp
          have hen2 := HEN.out
          have HGP : Hid (goneP p (va, vq) = true) := Lib.hid (by unfold goneP; dsimp only; rw [d1, d2]; rfl)
          have HSV : Hid (stepV p (va, vq) = (va, min (vq + 1) 1073741824)) := Lib.hid (by unfold stepV; rw [HGP.out]; dsimp only; rw [if_pos rfl])
          have HB1 : Hid (Below w1.heap.size w1 (w1.alloc (.cells #[.int .i64 va, .int .i64 vq] 80 (0, 0)))) := Lib.hid (below_alloc (Below.refl _ _) _)
          have HOWN := Lib.hid (pw_own_below HOW1.out HB1.out)
          have HGL : Hid (gl.length ≤ 48) := Lib.hid HPH.out.len
          have hgl := HGL.out
          clear hz hp
          go_wp2_with (at_builtin; (refine print_append_cells (w0 := w1.alloc (.cells #[.int .i64 va, .int .i64 vq] 80 (0, 0))) (r + 1) rfl _ _ 22 3 (.int .i64 0) 1 8 rfl Try.underlying22 info3 rfl (by decide) (by decide) u gl.length (gl.map (Value.int .i64)) [.int .i64 k] rfl (by rw [show (w1.alloc (.cells #[.int .i64 va, .int .i64 vq] 80 (0, 0))).heap.size = w1.heap.size + 1 by simp]; rfl) rfl (by simp [Value.oneCell']) HOWN.out (Below.refl _ _) (Nat.le_trans HSZ1.out HB1.out.size) (by omega) ?_); intro u4 w4 ho4 hb4 hg4 _; have HO4 := Lib.hid ho4; have HB4 := Lib.hid hb4; have HG4 := Lib.hid hg4; have HN4 : Hid (w4.heap[w1.heap.size]? = some (.cells #[.int .i64 va, .int .i64 vq] 80 (0, 0))) := Lib.hid (n_kept HOW1.out HG4.out); have n0 := blk_cell HN4.out 0; have n1 := blk_cell HN4.out 1; have n2 := blk_frozen HN4.out 1; clear ho4 hb4 hg4)
          clear hen2
          generalize min (vq + 1) 1073741824 = sq at HSV ⊢
          have HALL := Lib.hid (gone_end (sq := sq) HRE.out HRT.out HSZ1.out HG1.out HTB1.out HRG1.out HOW1.out HO4.out HB4.out HG4.out)
          have HQN : Hid (r + 1 ≤ w1.heap.size) := HSZ1
          generalize w4.setCell ⟨w1.heap.size, 1, none⟩ (.int .i64 sq) = W at HALL ⊢
          have HQ2 := Lib.hid HALL.out.1
          have HTB2 := Lib.hid HALL.out.2.1
          have HRG2 := Lib.hid HALL.out.2.2.1
          have HOW2 : Hid (W.drew.ownsRow (r + 1) 3 1 u4 (gl ++ [(k : Int)]).length ((gl ++ [(k : Int)]).map (Value.int .i64))) := Lib.hid (by rw [List.length_append, List.map_append]; exact HALL.out.2.2.2.1)
          have HG2 := Lib.hid HALL.out.2.2.2.2.1
          have HSZ2 := Lib.hid HALL.out.2.2.2.2.2
          clear HALL n0 n1 n2 HN4
          generalize w1.heap.size = q at HQ2 HQN ⊢
          clear HO4 HB4 HG4 HRG1 HTB1 HOW1 HG1 HSZ1 c1
          obtain ⟨w3, hrun, hrg3, hmt⟩ := ranges_put HRG2.out law3 Try.underlying76 (keyOf_int_mk Try.underlying3 (wf_who (k := (k : Int)) (by have := HK.out; omega))) (by simp [same_ky]) (by have := HPH.out.has k HK.out; rw [HV.out] at this; exact this) (nearE_mk (va, sq))
          have HRUN := Lib.hid hrun
          have HR3 := Lib.hid hrg3
          have HM3 := Lib.hid hmt.grown
          clear hrun hrg3 hmt
          refine rl_start (fun W' => W'.cell? ⟨t, 0, none⟩ = some (.map (some b)) ∧ W'.heap[q]? = some (.cells #[.int .i64 va, .int .i64 sq] 80 (0, 0))) 7 (by kernel_rfl) rfl ⟨blk_cell HTB2.out 0, HQ2.out⟩ (fun HS => ?_)
          repeat (first
            | ((with_reducible refine rlg_load (ty := 76) rfl ?_); refine rl_cell (ad := ⟨t, 0, none⟩) (v := .map (some b)) rfl (by kernel_rfl) (fun _ _ _ h => h) (by rfl) HS (by rfl) Try.underlying76 rfl (fun W hW => hW.1) ?_; (try simp only [Act.put, List.setIfInBounds_toArray, List.set_cons_zero, List.set_cons_succ, Nat.reduceAdd]))
            | ((with_reducible refine rlg_load (ty := 80) rfl ?_); refine rl_cells (ad := ⟨q, 0, none⟩) (cs := [.int .i64 va, .int .i64 sq]) rfl (by kernel_rfl) (fun _ _ _ h => h) (by rfl) HS (by rfl) Try.underlying80 rfl (by kernel_rfl) (fun W hW j u hu => by rw [add_plain, blk_cell hW.2]; simpa using hu) ?_; (try simp only [Act.put, List.setIfInBounds_toArray, List.set_cons_zero, List.set_cons_succ, Nat.reduceAdd]))
            | (refine rl_map (b := b) (key := .int .i64 k) (val := .agg #[.int .i64 va, .int .i64 sq]) rfl (by kernel_rfl) (by rfl) (by rfl) (by rfl) (by rfl) HRUN.out ⟨blk_cell ((HM3.out.block t (blk_lt HTB2.out) (fun e => HT.out.ne (Option.some.inj e))).trans HTB2.out) 0, (HM3.out.block q (blk_lt HQ2.out) (fun e => by have := HRT.out.2; have := HQN.out; have := Option.some.inj e; omega)).trans HQ2.out⟩ (fun _ => ?_); (try simp only [Act.put, List.setIfInBounds_toArray, List.set_cons_zero, List.set_cons_succ, Nat.reduceAdd]))
            | (refine rl_pureK (by kernel_rfl) (fun _ _ _ h => h) (by rfl) (fun W K hK => by go_simp; exact hK.out) ?_; (try simp only [Act.put, List.setIfInBounds_toArray, List.set_cons_zero, List.set_cons_succ, Nat.reduceAdd])))
          refine rl_done (by kernel_rfl) ?_
          go_wp2
          go_roundw
          case rel =>
            refine ⟨_, cnt1, _, gl ++ [(k : Int)], u4, rfl, HR3, Lib.hid ?_, Lib.hid (own_other HOW2.out HM3.out ?_), Lib.hid (HG2.out.andThen HM3.out (fun j e => .inr e)), Lib.hid ((HM3.out.block t (blk_lt HTB2.out) (fun e => HT.out.ne (Option.some.inj e))).trans HTB2.out), Lib.hid (Nat.le_trans HSZ2.out HM3.out.size)⟩
            · have := HST.out
              rw [HSV.out, HGP.out, if_pos rfl] at this
              exact this
            · rcases HOW2.out.2 with ⟨e, _⟩ | ⟨g, cap, cur, e, h1, _⟩
              · exact .inl (by rw [e]; rfl)
              · refine .inr (fun e2 => ?_)
                rw [e] at e2
                have : g = b := Option.some.inj e2
                have := HRT.out.2
                omega
          case measure =>
            have h1 := HR3.out.left_eq
            have h2 := HRG.out.left_eq
            have h3 := HLT.out
            omega
        · have dz : (vq == 0) = false := beq_eq_false_iff_ne.2 hz
          have d1 : decide (0 < vq) = true := decide_eq_true (by omega)
          have d2 : decide (p < vq) = false := decide_eq_false hp
          have hen2 := HEN.out
          have HGP : Hid (goneP p (va, vq) = false) := Lib.hid (by unfold goneP; dsimp only; rw [d2, Bool.and_false])
          have HSV : Hid (stepV p (va, vq) = (0, min (vq + 1) 1073741824)) := Lib.hid (by unfold stepV; rw [HGP.out]; dsimp only; rw [if_neg (by decide), if_neg hz])
          clear hz hp
          go_wp2
          clear hen2
          generalize min (vq + 1) 1073741824 = sq at HSV ⊢
          have HB1 : Hid (Below w1.heap.size w1 (w1.alloc (.cells #[.int .i64 0, .int .i64 sq] 80 (0, 0)))) := Lib.hid (below_alloc (Below.refl _ _) _)
          have HQ1 : Hid ((w1.alloc (.cells #[.int .i64 0, .int .i64 sq] 80 (0, 0))).heap[w1.heap.size]? = some (.cells #[.int .i64 0, .int .i64 sq] 80 (0, 0))) := Lib.hid (blk_new w1 _)
          generalize w1.alloc (.cells #[.int .i64 0, .int .i64 sq] 80 (0, 0)) = W at HB1 HQ1 ⊢
          have HB2 := Lib.hid (HB1.out.trans (pw_below_drewN (Below.refl _ W) 1))
          have HQ2 : Hid (W.drew.heap[w1.heap.size]? = some (.cells #[.int .i64 0, .int .i64 sq] 80 (0, 0))) := Lib.hid HQ1.out
          have HTB2 : Hid (W.drew.heap[t]? = some (.cells #[.map (some b)] 78 (0, 0))) := Lib.hid ((HB2.out.block t (blk_lt HTB1.out)).trans HTB1.out)
          have HRG2 := Lib.hid (HRG1.out.kept (grown_of_below HB2.out none) (by simp) (by simp))
          have HOW2 := Lib.hid (pw_own_below HOW1.out HB2.out)
          have HG2 : Hid (w.grownBy W.drew (some b)) := Lib.hid (HG1.out.andThen (grown_of_below HB2.out none) (fun j e => by cases e))
          have HSZ2 : Hid (r + 1 ≤ W.drew.heap.size) := Lib.hid (Nat.le_trans HSZ1.out HB2.out.size)
          have HQN : Hid (r + 1 ≤ w1.heap.size) := HSZ1
          generalize w1.heap.size = q at HQ1 HQ2 HQN HB1 HB2 ⊢
          clear HB1 HQ1 HB2 HRG1 HTB1 HOW1 HG1 HSZ1 c1
          obtain ⟨w3, hrun, hrg3, hmt⟩ := ranges_put HRG2.out law3 Try.underlying76 (keyOf_int_mk Try.underlying3 (wf_who (k := (k : Int)) (by have := HK.out; omega))) (by simp [same_ky]) (by have := HPH.out.has k HK.out; rw [HV.out] at this; exact this) (nearE_mk (0, sq))
          have HRUN := Lib.hid hrun
          have HR3 := Lib.hid hrg3
          have HM3 := Lib.hid hmt.grown
          clear hrun hrg3 hmt
          refine rl_start (fun W' => W'.cell? ⟨t, 0, none⟩ = some (.map (some b)) ∧ W'.heap[q]? = some (.cells #[.int .i64 0, .int .i64 sq] 80 (0, 0))) 7 (by kernel_rfl) rfl ⟨blk_cell HTB2.out 0, HQ2.out⟩ (fun HS => ?_)
          repeat (first
            | ((with_reducible refine rlg_load (ty := 76) rfl ?_); refine rl_cell (ad := ⟨t, 0, none⟩) (v := .map (some b)) rfl (by kernel_rfl) (fun _ _ _ h => h) (by rfl) HS (by rfl) Try.underlying76 rfl (fun W hW => hW.1) ?_; (try simp only [Act.put, List.setIfInBounds_toArray, List.set_cons_zero, List.set_cons_succ, Nat.reduceAdd]))
            | ((with_reducible refine rlg_load (ty := 80) rfl ?_); refine rl_cells (ad := ⟨q, 0, none⟩) (cs := [.int .i64 0, .int .i64 sq]) rfl (by kernel_rfl) (fun _ _ _ h => h) (by rfl) HS (by rfl) Try.underlying80 rfl (by kernel_rfl) (fun W hW j u hu => by rw [add_plain, blk_cell hW.2]; simpa using hu) ?_; (try simp only [Act.put, List.setIfInBounds_toArray, List.set_cons_zero, List.set_cons_succ, Nat.reduceAdd]))
            | (refine rl_map (b := b) (key := .int .i64 k) (val := .agg #[.int .i64 0, .int .i64 sq]) rfl (by kernel_rfl) (by rfl) (by rfl) (by rfl) (by rfl) HRUN.out ⟨blk_cell ((HM3.out.block t (blk_lt HTB2.out) (fun e => HT.out.ne (Option.some.inj e))).trans HTB2.out) 0, (HM3.out.block q (blk_lt HQ2.out) (fun e => by have := HRT.out.2; have := HQN.out; have := Option.some.inj e; omega)).trans HQ2.out⟩ (fun _ => ?_); (try simp only [Act.put, List.setIfInBounds_toArray, List.set_cons_zero, List.set_cons_succ, Nat.reduceAdd]))
            | (refine rl_pureK (by kernel_rfl) (fun _ _ _ h => h) (by rfl) (fun W K hK => by go_simp; exact hK.out) ?_; (try simp only [Act.put, List.setIfInBounds_toArray, List.set_cons_zero, List.set_cons_succ, Nat.reduceAdd])))
          refine rl_done (by kernel_rfl) ?_
          go_wp2
          go_roundw
          case rel =>
            refine ⟨_, cnt1, _, gl, u, rfl, HR3, Lib.hid ?_, Lib.hid (own_other HOW2.out HM3.out ?_), Lib.hid (HG2.out.andThen HM3.out (fun j e => .inr e)), Lib.hid ((HM3.out.block t (blk_lt HTB2.out) (fun e => HT.out.ne (Option.some.inj e))).trans HTB2.out), Lib.hid (Nat.le_trans HSZ2.out HM3.out.size)⟩
            · have := HST.out
              rw [HSV.out, HGP.out] at this
              simpa using this
            · rcases HOW2.out.2 with ⟨e, _⟩ | ⟨g, cap, cur, e, h1, _⟩
              · exact .inl (by rw [e]; rfl)
              · refine .inr (fun e2 => ?_)
                rw [e] at e2
                have : g = b := Option.some.inj e2
                have := HRT.out.2
                omega
          case measure =>
            have h1 := HR3.out.left_eq
            have h2 := HRG.out.left_eq
            have h3 := HLT.out
            omega
end Go.Proofs.Ytcopnddmkmgihaa.Mb
