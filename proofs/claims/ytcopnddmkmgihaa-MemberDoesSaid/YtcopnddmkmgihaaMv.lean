/- member: the document's own table (clepsydraref14): Tick: the walk. -/
import Derived.Test.YtcopnddmkmgihaaMr
import Derived.Deep.MidRow
namespace Go.Proofs.Ytcopnddmkmgihaa.Mb
open Go.RowKit Go.Maps Go.Sort Go.Shelf Go.ChangeMaps Go.MapKept Go.Proofs.YtcopnddmkmgihaaW.PrintWords Go.Proofs.YtcopnddmkmgihaaW.PrintLast Go.Proofs.YtcopnddmkmgihaaW.PrintMore Go.Proofs.YtcopnddmkmgihaaEv Go.Proofs.YtcopnddmkmgihaaRx
set_option linter.unusedVariables false
set_option linter.unusedSimpArgs false
section
variable {P : Program} {ops : Array Oper} {Q : Exit → Act → World → Prop} {S : World → Prop} {n k : Nat} {a : Act} {w : World} {oi : Oper} {rest : List Oper} {v : Value}
/-- A store in a region that draws its order. -/
theorem rl_store {ty : TypeId} {x u : Operand} {pv val : Value} {w1 : World} (hop : oi.op = .store ty x u) (hc : (decide (k < n) && readyB .any ops (pre n k) (pre n (k + 1)) k) = true)
    (hw : Region.wanted oi (yielded ops a.tmps) = true) (hx : a.eval x = pv) (hv : a.eval u = val) (hrun : (Instr.storeAt ty pv val).run P w = .ok () w1) (hS : S w1)
    (h : S w1 → RL P ops Q S n (k + 1) rest (a.put oi.dst undef) w1) : RL P ops Q S n k (oi :: rest) a w := fun e =>
  rg_one (rl_hd e) hc hw fun K hK => by
    unfold Oper.wp
    simp [execOp, hop, hx, hv, hrun, Result.andThen]
    exact hK _ _ hS (fun h1 => h h1 (rl_tl e))
end
theorem own_set {W W' : World} {base r n : Nat} {u : Value} {xs : List Value} (h : W.ownsRow base 3 1 u n xs) (hr : r < base) (hg : W.grownBy W' (some r)) : W'.ownsRow base 3 1 u n xs := own_other h hg (by
  rcases h.2 with ⟨rfl, _⟩ | ⟨g, cap, cur, rfl, h1, _⟩
  · exact .inl rfl
  · exact .inr (fun e => by have : g = r := Option.some.inj e; omega))
theorem own_ne {W : World} {base r n : Nat} {u : Value} {xs : List Value} (h : W.ownsRow base 3 1 u n xs) (hr : r < base) : some r ≠ u.ownBlock := by
  rcases h.2 with ⟨rfl, _⟩ | ⟨g, cap, cur, rfl, h1, _⟩
  · intro e; cases e
  · exact fun e => by have : r = g := Option.some.inj e; omega
/-- A number's three cells are written. -/
theorem put3 {W : World} {r k : Nat} {f : FT} (h : RTb W r f) (hk : k < 48) (v : Option (Int × Int)) :
    (Instr.storeAt 50 (.pointer (some ⟨r, k * 3, none⟩)) (.agg #[en v 0, en v 1, en v 2])).run Try.prog W = .ok () (W.setCells r (k * 3) [en v 0, en v 1, en v 2]) ∧ RTb (W.setCells r (k * 3) [en v 0, en v 1, en v 2]) r (upd f k v) ∧ W.grownBy (W.setCells r (k * 3) [en v 0, en v 1, en v 2]) (some r) := by
  refine ⟨run_storeAt_mid W r (k * 3) 50 #[en v 0, en v 1, en v 2] (fun j hj => ⟨?_, blk_frozen h _⟩) info50 ?_, h.set3 hk v, ((set_grown _ r _ _).trans (set_grown _ r _ _)).trans (set_grown _ r _ _)⟩
  · have hj3 : j < 3 := hj
    rw [h.cell k j hk hj3]
    rfl
  · cases v <;> simp [en, Value.oneCell']
/-- The first k are done. -/
def mixF (p : Int) (f : FT) (k : Nat) : FT := fun j => if j < k then tickF p f j else f j
theorem mix_zero (p : Int) (f : FT) : mixF p f 0 = f := by funext j; unfold mixF; rw [if_neg (by omega)]
theorem mix_at (p : Int) (f : FT) (k : Nat) : mixF p f k k = f k := by unfold mixF; rw [if_neg (by omega)]
theorem mix_succ (p : Int) (f : FT) (k : Nat) : mixF p f (k + 1) = upd (mixF p f k) k (tickF p f k) := by
  funext j
  unfold upd mixF
  by_cases e : j = k
  · subst e; rw [if_pos (by omega), if_pos rfl]
  · rw [if_neg e]
    by_cases q : j < k
    · rw [if_pos q, if_pos (by omega)]
    · rw [if_neg q, if_neg (by omega)]
theorem mix_none {p : Int} {f : FT} {k : Nat} (h : f k = none) : mixF p f (k + 1) = mixF p f k := by
  rw [mix_succ]
  funext j
  unfold upd
  by_cases e : j = k
  · subst e
    rw [if_pos rfl, mix_at, h]
    unfold tickF
    rw [h]
  · rw [if_neg e]
theorem RTb.congr {w : World} {r : Nat} {f g : FT} (h : RTb w r f) (e : ∀ k, k < 48 → f k = g k) : RTb w r g := by
  have e2 : arrF f = arrF g := arrF_ext (arrF_size f) (fun k j hk hj => by rw [arrF_at f k j hk hj, e k hk])
  unfold RTb at h ⊢
  rw [← e2]
  exact h
theorem mix_end (p : Int) (f : FT) : ∀ k, k < 48 → mixF p f 48 k = tickF p f k := fun k hk => by unfold mixF; rw [if_pos hk]
/-- Who goes. -/
def gF (p : Int) (f : FT) : FT := fun k => match f k with | none => none | some v => if goneP p v = true then some v else none
theorem gF_eq (p : Int) (f : FT) (k : Nat) : (match f k with | none => none | some v => if goneP p v = true then some v else none) = gF p f k := by
  unfold gF
  cases f k <;> rfl
theorem gF_nums (p : Int) (f : FT) : goneF p f = numsT (gF p f) 48 := by
  unfold goneF nums numsT
  congr 1
set_option maxRecDepth 100000 in
set_option maxHeartbeats 8000000 in
theorem RTick_calls (w : World) (r : Nat) (f : FT) (h : RTb w r f) (hgood : GoodF f) (p : Int) (l : List Int) (hl : goneF p f = l) (m : Nat) (hm : l.length = m) :
    Calls Try.prog 28 #[.pointer (some ⟨r, 0, none⟩), .int .i64 p] w fun e w' => ∃ A c, e = .returned (.slice A m c) ∧ Hid (w'.ownsRow w.heap.size 3 1 (.slice A m c) m (l.map (Value.int .i64))) ∧ Hid (RTb w' r (tickF p f)) ∧ Hid (w.grownBy w' (some r)) := by
  have HR := Lib.hid h
  have HL := Lib.hid hl
  have HM := Lib.hid hm
  have HG := Lib.hid hgood
  have HRL := Lib.hid (blk_lt h)
  clear h hl hm hgood
  go_enter Try.func28, Try.ntmps28
  go_wp2_with ((with_reducible refine gate_dst (N := 11) rfl ?_); refine wl_arr_load rfl rfl (by rfl) HR.out ?_)
  go_loopw [5, 12] (fun v5 v12 wr => ∃ (k : Nat) (u : Value), k ≤ 48 ∧ v12 = .int .i64 k ∧ u = v5 ∧ Hid (wr.ownsRow w.heap.size 3 1 u (numsT (gF p f) k).length ((numsT (gF p f) k).map (Value.int .i64))) ∧ Hid (w.grownBy wr (some r)) ∧ Hid (RTb wr r (mixF p f k))) (fun _ v12 _ => 48 - (intOf v12).toNat)
  case atStart => exact ⟨0, _, by omega, rfl, rfl, Lib.hid (World.ownsRow_nil _ _ _ _), Lib.hid (World.grownBy.refl _ _), by rw [mix_zero]; exact HR⟩
  case round =>
    obtain ⟨k, u, hk, rfl, hu, HO, HB, HT⟩ := hrel
    subst hu
    by_cases hlt : k < 48
    · have hk1 : (k : Int) < 48 := by omega
      have HK := Lib.hid hlt
      cases hf : f k with
      | none =>
        have HF := Lib.hid hf
        have HGF : Hid (gF p f k = none) := Lib.hid (by unfold gF; rw [hf])
        clear hf
        go_wp2_with (first
          | ((with_reducible refine gate_dst (N := 15) rfl ?_); refine wl_arr_index (k := k) (f := f) rfl rfl (by rfl) (by rfl) (by omega) ?_; rw [HF.out]; simp only [en])
          | fail)
        exact ⟨⟨k + 1, _, by omega, by simp, rfl, by rw [numsT_none HGF.out]; exact Lib.hid (pw_own_below HO.out (below_alloc (Below.refl _ _) _)), Lib.hid (HB.out.trans (World.grownBy_alloc _ _ _)), by rw [mix_none HF.out]; exact Lib.hid (HT.out.below (below_alloc (Below.refl _ _) _))⟩, by simp [intOf]; omega⟩
      | some v =>
        obtain ⟨a, q⟩ := v
        have HF := Lib.hid hf
        have HV : Hid ((0 ≤ a ∧ a ≤ 1073741824) ∧ 0 ≤ q ∧ q ≤ 1073741824) := Lib.hid (HG.out k _ hf)
        have HO1 : Hid ((wr.alloc (.cells #[.bool true, .int .i64 a, .int .i64 q] 50 (0, 0))).ownsRow w.heap.size 3 1 u (numsT (gF p f) k).length ((numsT (gF p f) k).map (Value.int .i64))) := Lib.hid (pw_own_below HO.out (below_alloc (Below.refl _ _) _))
        have HT1 : Hid (RTb (wr.alloc (.cells #[.bool true, .int .i64 a, .int .i64 q] 50 (0, 0))) r (mixF p f k)) := Lib.hid (HT.out.below (below_alloc (Below.refl _ _) _))
        have HB1 : Hid (w.grownBy (wr.alloc (.cells #[.bool true, .int .i64 a, .int .i64 q] 50 (0, 0))) (some r)) := Lib.hid (HB.out.trans (World.grownBy_alloc _ _ _))
        have HLN : Hid ((numsT (gF p f) k).length ≤ 48) := Lib.hid (by have := numsT_le (gF p f) k; omega)
        clear hf
        by_cases hgn : goneP p (a, q) = true
        · have d1 : decide (0 < q) = true := by
            have e := hgn
            unfold goneP at e
            exact (Bool.and_eq_true_iff.1 e).1
          have d2 : decide (p < q) = true := by
            have e := hgn
            unfold goneP at e
            exact (Bool.and_eq_true_iff.1 e).2
          have HGF : Hid (gF p f k = some (a, q)) := Lib.hid (by unfold gF; rw [HF.out]; exact if_pos hgn)
          have HTF : Hid (tickF p f k = none) := Lib.hid (by unfold tickF; rw [HF.out]; exact if_pos hgn)
          have HQ : Hid ((wr.alloc (.cells #[.bool true, .int .i64 a, .int .i64 q] 50 (0, 0))).heap.size = wr.heap.size + 1) := Lib.hid (by simp)
          have HSZ : Hid (w.heap.size ≤ (wr.alloc (.cells #[.bool true, .int .i64 a, .int .i64 q] 50 (0, 0))).heap.size) := Lib.hid HB1.out.size
          clear hgn
          go_wp2_with (first
            | ((with_reducible refine gate_dst (N := 15) rfl ?_); refine wl_arr_index (k := k) (f := f) rfl rfl (by rfl) (by rfl) (by omega) ?_; rw [HF.out]; simp only [en])
            | (at_builtin; (refine print_append_cells (w0 := wr.alloc (.cells #[.bool true, .int .i64 a, .int .i64 q] 50 (0, 0))) w.heap.size rfl _ _ 22 3 (.int .i64 0) 1 8 rfl Try.underlying22 info3 rfl (by decide) (by decide) u (numsT (gF p f) k).length ((numsT (gF p f) k).map (Value.int .i64)) [.int .i64 k] rfl (by rw [HQ.out]; rfl) rfl (by simp [Value.oneCell']) HO1.out (Below.refl _ _) HSZ.out (by have := HLN.out; omega) ?_); intro u4 w4 ho4 hb4 hg4 _; have HO4 := Lib.hid ho4; have HG4 := Lib.hid hg4; have HT4 : Hid (RTb w4 r (mixF p f k)) := Lib.hid ((hg4.block r (blk_lt HT1.out) (own_ne HO1.out HRL.out)).trans HT1.out); have HT5 := HT4.out; have c0 := HT4.out.cell k 0 HK.out (by omega); have c1 := HT4.out.cell k 1 HK.out (by omega); have c2 := HT4.out.cell k 2 HK.out (by omega); have z0 : w4.frozen? ⟨r, k * 3, none⟩ = false := blk_frozen HT5 _; have z1 : w4.frozen? ⟨r, k * 3 + 1, none⟩ = false := blk_frozen HT5 _; have z2 : w4.frozen? ⟨r, k * 3 + 2, none⟩ = false := blk_frozen HT5 _; rw [Nat.add_zero] at c0; rw [mix_at, HF.out] at c0 c1 c2; simp only [en] at c0 c1 c2; clear ho4 hb4 hg4 HT5))
          obtain ⟨_, h5, h6⟩ := put3 HT4.out HK.out none
          exact ⟨⟨k + 1, _, by omega, by simp, rfl, by rw [numsT_some HGF.out, List.length_append, List.map_append]; exact Lib.hid (own_set HO4.out HRL.out h6), Lib.hid ((HB1.out.andThen HG4.out (fun j e => .inl (own_base HO1.out j e))).trans h6), by rw [mix_succ, HTF.out]; exact Lib.hid h5⟩, by simp [intOf]; omega⟩
        · have HGF : Hid (gF p f k = none) := Lib.hid (by unfold gF; rw [HF.out]; exact if_neg hgn)
          have hgn2 : goneP p (a, q) = false := by cases e : goneP p (a, q) with | false => rfl | true => exact absurd e hgn
          have HTF0 : Hid (tickF p f k = some (stepV p (a, q))) := Lib.hid (by unfold tickF; rw [HF.out]; exact if_neg hgn)
          by_cases hq0 : q = 0
          · subst hq0
            have HMC := Lib.hid (fun W => more_calls a HV.out.1 W)
            have HMD := Lib.hid (fun W => more_calls 0 (by omega) W)
            have HTF1 : Hid (tickF p f k = some (min (a + 1) 1073741824, min 1 1073741824)) := Lib.hid (by rw [HTF0.out]; unfold stepV; rw [hgn2]; rfl)
            clear hgn hgn2
            go_wp2_with (first
              | ((with_reducible refine gate_dst (N := 15) rfl ?_); refine wl_arr_index (k := k) (f := f) rfl rfl (by rfl) (by rfl) (by omega) ?_; rw [HF.out]; simp only [en])
              | (go_at_call 43; (with_reducible refine (HMC.out _).mono ?_); rintro e w3 ⟨rfl, rfl⟩)
              | (go_at_call 43; (with_reducible refine (HMD.out _).mono ?_); rintro e w3 ⟨rfl, rfl⟩))
            have HO2 : Hid ((wr.alloc (.cells #[.bool true, .int .i64 (min (a + 1) 1073741824), .int .i64 (min 1 1073741824)] 50 (0, 0))).ownsRow w.heap.size 3 1 u (numsT (gF p f) k).length ((numsT (gF p f) k).map (Value.int .i64))) := Lib.hid (pw_own_below HO.out (below_alloc (Below.refl _ _) _))
            have HT2 : Hid (RTb (wr.alloc (.cells #[.bool true, .int .i64 (min (a + 1) 1073741824), .int .i64 (min 1 1073741824)] 50 (0, 0))) r (mixF p f k)) := Lib.hid (HT.out.below (below_alloc (Below.refl _ _) _))
            have HB2 : Hid (w.grownBy (wr.alloc (.cells #[.bool true, .int .i64 (min (a + 1) 1073741824), .int .i64 (min 1 1073741824)] 50 (0, 0))) (some r)) := Lib.hid (HB.out.trans (World.grownBy_alloc _ _ _))
            have HQ2 : Hid ((wr.alloc (.cells #[.bool true, .int .i64 (min (a + 1) 1073741824), .int .i64 (min 1 1073741824)] 50 (0, 0))).heap[wr.heap.size]? = some (.cells #[.bool true, .int .i64 (min (a + 1) 1073741824), .int .i64 (min 1 1073741824)] 50 (0, 0))) := Lib.hid (blk_new wr _)
            have HNE : Hid (r < wr.heap.size) := Lib.hid (blk_lt HT.out)
            generalize min (a + 1) 1073741824 = sa at HO2 HT2 HB2 HQ2 HTF1 ⊢
            generalize (min 1 1073741824 : Int) = sq at HO2 HT2 HB2 HQ2 HTF1 ⊢
            have HTF := HTF1
            generalize hWW : wr.alloc (.cells #[.bool true, .int .i64 sa, .int .i64 sq] 50 (0, 0)) = W at HO2 HT2 HB2 HQ2 ⊢
            clear hWW
            obtain ⟨hrun, hrt, hgr⟩ := put3 (W := W.drew) (show RTb W.drew r (mixF p f k) from HT2.out) HK.out (some (sa, sq))
            have HRUN := Lib.hid hrun
            have HRT := Lib.hid hrt
            have HGR := Lib.hid hgr
            clear hrun hrt hgr
            generalize W.drew.setCells r (k * 3) [en (some (sa, sq)) 0, en (some (sa, sq)) 1, en (some (sa, sq)) 2] = w3 at HRUN HRT HGR
            have HQ3 : Hid (w3.heap[wr.heap.size]? = some (.cells #[.bool true, .int .i64 sa, .int .i64 sq] 50 (0, 0))) := Lib.hid ((HGR.out.block wr.heap.size (blk_lt (show W.drew.heap[wr.heap.size]? = _ from HQ2.out)) (fun e => by have := HNE.out; have := Option.some.inj e; omega)).trans HQ2.out)
            generalize wr.heap.size = q9 at HQ2 HQ3 ⊢
            refine rl_start (fun W' => W'.heap[q9]? = some (.cells #[.bool true, .int .i64 sa, .int .i64 sq] 50 (0, 0))) 7 (by kernel_rfl) rfl HQ2.out (fun HS => ?_)
            repeat (first
              | ((with_reducible refine rlg_load (ty := 50) rfl ?_); refine rl_cells (ad := ⟨q9, 0, none⟩) (cs := [.bool true, .int .i64 sa, .int .i64 sq]) rfl (by kernel_rfl) (fun _ _ _ h => h) (by rfl) HS (by rfl) Try.underlying50 rfl (by kernel_rfl) (fun W hW j u hu => by rw [add_plain, blk_cell hW]; simpa using hu) ?_; (try simp only [Act.put, List.setIfInBounds_toArray, List.set_cons_zero, List.set_cons_succ, Nat.reduceAdd]))
              | (refine rl_store (pv := .pointer (some ⟨r, k * 3, none⟩)) (val := .agg #[.bool true, .int .i64 sa, .int .i64 sq]) rfl (by kernel_rfl) (by rfl) (by rfl) (by rfl) HRUN.out HQ3.out (fun _ => ?_); (try simp only [Act.put, List.setIfInBounds_toArray, List.set_cons_zero, List.set_cons_succ, Nat.reduceAdd]))
              | (refine rl_pureK (by kernel_rfl) (fun _ _ _ h => h) (by rfl) (fun W K hK => by go_simp; exact hK.out) ?_; (try simp only [Act.put, List.setIfInBounds_toArray, List.set_cons_zero, List.set_cons_succ, Nat.reduceAdd])))
            refine rl_done (by kernel_rfl) ?_
            go_wp2_with fail
            exact ⟨⟨k + 1, _, by omega, by simp, rfl, by rw [numsT_none HGF.out]; exact Lib.hid (own_set (show W.drew.ownsRow _ _ _ _ _ _ from pw_own_below HO2.out (pw_below_drewN (Below.refl _ _) 1)) HRL.out HGR.out), Lib.hid ((show w.grownBy W.drew (some r) from HB2.out.trans (grown_of_below (pw_below_drewN (Below.refl _ W) 1) _)).trans HGR.out), by rw [mix_succ, HTF.out]; exact HRT⟩, by simp [intOf]; omega⟩
          · have d1 : decide (0 < q) = true := decide_eq_true (by have := HV.out.2.1; omega)
            have d2 : decide (p < q) = false := by
              have e := hgn2
              unfold goneP at e
              dsimp only at e
              rw [d1, Bool.true_and] at e
              exact e
            have d3 : (q == 0) = false := beq_eq_false_iff_ne.mpr hq0
            have HMD := Lib.hid (fun W => more_calls q HV.out.2 W)
            have HTF1 : Hid (tickF p f k = some (0, min (q + 1) 1073741824)) := Lib.hid (by rw [HTF0.out]; unfold stepV; rw [hgn2]; dsimp only; rw [if_neg (by decide), if_neg hq0])
            clear hgn hgn2 hq0
            go_wp2_with (first
              | ((with_reducible refine gate_dst (N := 15) rfl ?_); refine wl_arr_index (k := k) (f := f) rfl rfl (by rfl) (by rfl) (by omega) ?_; rw [HF.out]; simp only [en])
              | (go_at_call 43; (with_reducible refine (HMD.out _).mono ?_); rintro e w3 ⟨rfl, rfl⟩))
            have HO2 : Hid ((wr.alloc (.cells #[.bool true, .int .i64 0, .int .i64 (min (q + 1) 1073741824)] 50 (0, 0))).ownsRow w.heap.size 3 1 u (numsT (gF p f) k).length ((numsT (gF p f) k).map (Value.int .i64))) := Lib.hid (pw_own_below HO.out (below_alloc (Below.refl _ _) _))
            have HT2 : Hid (RTb (wr.alloc (.cells #[.bool true, .int .i64 0, .int .i64 (min (q + 1) 1073741824)] 50 (0, 0))) r (mixF p f k)) := Lib.hid (HT.out.below (below_alloc (Below.refl _ _) _))
            have HB2 : Hid (w.grownBy (wr.alloc (.cells #[.bool true, .int .i64 0, .int .i64 (min (q + 1) 1073741824)] 50 (0, 0))) (some r)) := Lib.hid (HB.out.trans (World.grownBy_alloc _ _ _))
            have HQ2 : Hid ((wr.alloc (.cells #[.bool true, .int .i64 0, .int .i64 (min (q + 1) 1073741824)] 50 (0, 0))).heap[wr.heap.size]? = some (.cells #[.bool true, .int .i64 0, .int .i64 (min (q + 1) 1073741824)] 50 (0, 0))) := Lib.hid (blk_new wr _)
            have HNE : Hid (r < wr.heap.size) := Lib.hid (blk_lt HT.out)
            generalize min (q + 1) 1073741824 = sq at HO2 HT2 HB2 HQ2 HTF1 ⊢
            have HTF := HTF1
            generalize hWW : wr.alloc (.cells #[.bool true, .int .i64 0, .int .i64 sq] 50 (0, 0)) = W at HO2 HT2 HB2 HQ2 ⊢
            clear hWW
            obtain ⟨hrun, hrt, hgr⟩ := put3 (W := W.drew) (show RTb W.drew r (mixF p f k) from HT2.out) HK.out (some (0, sq))
            have HRUN := Lib.hid hrun
            have HRT := Lib.hid hrt
            have HGR := Lib.hid hgr
            clear hrun hrt hgr
            generalize W.drew.setCells r (k * 3) [en (some (0, sq)) 0, en (some (0, sq)) 1, en (some (0, sq)) 2] = w3 at HRUN HRT HGR
            have HQ3 : Hid (w3.heap[wr.heap.size]? = some (.cells #[.bool true, .int .i64 0, .int .i64 sq] 50 (0, 0))) := Lib.hid ((HGR.out.block wr.heap.size (blk_lt (show W.drew.heap[wr.heap.size]? = _ from HQ2.out)) (fun e => by have := HNE.out; have := Option.some.inj e; omega)).trans HQ2.out)
            generalize wr.heap.size = q9 at HQ2 HQ3 ⊢
            refine rl_start (fun W' => W'.heap[q9]? = some (.cells #[.bool true, .int .i64 0, .int .i64 sq] 50 (0, 0))) 7 (by kernel_rfl) rfl HQ2.out (fun HS => ?_)
            repeat (first
              | ((with_reducible refine rlg_load (ty := 50) rfl ?_); refine rl_cells (ad := ⟨q9, 0, none⟩) (cs := [.bool true, .int .i64 0, .int .i64 sq]) rfl (by kernel_rfl) (fun _ _ _ h => h) (by rfl) HS (by rfl) Try.underlying50 rfl (by kernel_rfl) (fun W hW j u hu => by rw [add_plain, blk_cell hW]; simpa using hu) ?_; (try simp only [Act.put, List.setIfInBounds_toArray, List.set_cons_zero, List.set_cons_succ, Nat.reduceAdd]))
              | (refine rl_store (pv := .pointer (some ⟨r, k * 3, none⟩)) (val := .agg #[.bool true, .int .i64 0, .int .i64 sq]) rfl (by kernel_rfl) (by rfl) (by rfl) (by rfl) HRUN.out HQ3.out (fun _ => ?_); (try simp only [Act.put, List.setIfInBounds_toArray, List.set_cons_zero, List.set_cons_succ, Nat.reduceAdd]))
              | (refine rl_pureK (by kernel_rfl) (fun _ _ _ h => h) (by rfl) (fun W K hK => by go_simp; exact hK.out) ?_; (try simp only [Act.put, List.setIfInBounds_toArray, List.set_cons_zero, List.set_cons_succ, Nat.reduceAdd])))
            refine rl_done (by kernel_rfl) ?_
            go_wp2_with fail
            exact ⟨⟨k + 1, _, by omega, by simp, rfl, by rw [numsT_none HGF.out]; exact Lib.hid (own_set (show W.drew.ownsRow _ _ _ _ _ _ from pw_own_below HO2.out (pw_below_drewN (Below.refl _ _) 1)) HRL.out HGR.out), Lib.hid ((show w.grownBy W.drew (some r) from HB2.out.trans (grown_of_below (pw_below_drewN (Below.refl _ W) 1) _)).trans HGR.out), by rw [mix_succ, HTF.out]; exact HRT⟩, by simp [intOf]; omega⟩
    · obtain rfl : k = 48 := by omega
      have hl2 : (numsT (gF p f) 48).length = m := by rw [← gF_nums, HL.out, HM.out]
      have hl3 : numsT (gF p f) 48 = l := by rw [← gF_nums, HL.out]
      rw [hl2, hl3] at HO
      obtain ⟨A, c, rfl⟩ := own_shape HO.out
      clear hl2 hl3
      go_wp2_with fail
      go_ret
      exact ⟨A, c, rfl, HO, Lib.hid (HT.out.congr (mix_end p f)), HB⟩
end Go.Proofs.Ytcopnddmkmgihaa.Mb
