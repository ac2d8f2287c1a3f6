/- member: New, Age, Drop, Hear: the walks. -/
import Derived.Test.YtcopnddmkmgihaaMb
import Derived.Test.YtcopnddmkmgihaaRx
import Derived.Test.YtcopnddmkmgihaaMs
import Derived.Maps.OwnOps
namespace Go.Proofs.Ytcopnddmkmgihaa.Mb
open Go.RowKit Go.Maps Go.ChangeMaps Go.MapKept Go.Proofs.YtcopnddmkmgihaaW.PrintWords Go.Proofs.YtcopnddmkmgihaaW.PrintLast Go.Proofs.YtcopnddmkmgihaaW.PrintMore Go.Proofs.YtcopnddmkmgihaaEv Go.Proofs.YtcopnddmkmgihaaRx
set_option linter.unusedVariables false
set_option linter.unusedSimpArgs false
theorem law3 : Keyed Try.prog 3 := int_keyed Try.underlying3
theorem zero80 (w : World) : (zeroValue 80).run Try.prog w = .ok (.agg #[.int .i64 0, .int .i64 0]) w := by kernel_rfl
theorem wf_who {k : Int} (h : -9223372036854775808 ≤ k ∧ k ≤ 9223372036854775807) : (Lit.int .i64 k).wf = true := by
  have e1 : IntKind.i64.min = -9223372036854775808 := rfl
  have e2 : IntKind.i64.max = 9223372036854775807 := rfl
  simp [Lit.wf, e1, e2]
  omega
theorem nearE_inv2 {v : Value} {d : DataW Unit} {ps : List MemPlace} (h : nearE v = some (d, ps)) : ∃ a q : Int, v = .agg #[.int .i64 a, .int .i64 q] ∧ d = pr (a, q) := by
  obtain ⟨⟨a, q⟩, h1, h2⟩ := nearE_inv h
  exact ⟨a, q, h1, (Prod.mk.inj h2).1⟩
/-- A table of neighbours in memory. -/
structure Tab (w : World) (t b : Nat) (f : FT) : Prop where
  blk : w.heap[t]? = some (.cells #[.map (some b)] 78 (0, 0))
  map : ∃ D, w.ownsMap Try.prog 3 nearE b 48 D ∧ Ab D f
theorem Tab.ne {w : World} {t b : Nat} {f : FT} (h : Tab w t b f) : t ≠ b := by
  obtain ⟨D, ⟨es, clock, hb, _⟩, _⟩ := h.map
  intro e
  have := h.blk
  rw [e, hb] at this
  cases this
theorem Tab.lt {w : World} {t b : Nat} {f : FT} (h : Tab w t b f) : t < w.heap.size ∧ b < w.heap.size := by
  obtain ⟨D, h1, _⟩ := h.map
  exact ⟨blk_lt h.blk, h1.lt⟩
theorem Tab.kept {w w1 : World} {t b : Nat} {f : FT} {row : Option Nat} (h : Tab w t b f) (hg : w.grownBy w1 row) (h1 : some t ≠ row) (h2 : some b ≠ row) : Tab w1 t b f := by
  obtain ⟨D, h3, h4⟩ := h.map
  exact ⟨(hg.block t h.lt.1 h1).trans h.blk, D, h3.kept hg h2, h4⟩
theorem Tab.below {w w1 : World} {t b : Nat} {f : FT} (h : Tab w t b f) (hb : Below w.heap.size w w1) : Tab w1 t b f := h.kept (grown_of_below hb none) (by simp) (by simp)
/-- What the table answers. -/
def atF (f : FT) (who : Int) : Option (Int × Int) := if 0 ≤ who ∧ who < 48 then f who.toNat else none
theorem ab_look {D : DataW Unit} {f : FT} (h : Ab D f) (who : Int) {a q : Int} (e : D.atKey (ky who) (pr (0, 0)) = pr (a, q)) : Maps.has D (ky who) = (atF f who).isSome ∧ (a, q) = (atF f who).getD (0, 0) := by
  unfold atF
  by_cases hr : 0 ≤ who ∧ who < 48
  · rw [if_pos hr]
    obtain ⟨k, rfl⟩ : ∃ k : Nat, who = k := ⟨who.toNat, by omega⟩
    rw [Int.toNat_natCast]
    refine ⟨h.has k (by omega), ?_⟩
    cases hf : f k with
    | none =>
      have := h.has k (by omega)
      rw [hf] at this
      rw [atKey_of_not_has this] at e
      exact (pr_inj e).symm
    | some v =>
      rw [h.at_ k v (by omega) hf] at e
      exact (pr_inj e).symm
  · rw [if_neg hr]
    have := h.out (k := who) (by omega)
    refine ⟨this, ?_⟩
    rw [atKey_of_not_has this] at e
    exact (pr_inj e).symm
set_option maxRecDepth 100000 in
set_option maxHeartbeats 4000000 in
theorem Age_calls (w : World) (t b : Nat) (f : FT) (h : Tab w t b f) (who : Int) (hw : -9223372036854775808 ≤ who ∧ who ≤ 9223372036854775807) :
    Calls Try.prog 32 #[.pointer (some ⟨t, 0, none⟩), .int .i64 who] w fun e w' => e = .returned (.tuple #[.int .i64 ((atF f who).getD (0, 0)).1, .bool (atF f who).isSome]) ∧ Hid (Below w.heap.size w w') := by
  have c0 : w.cell? ⟨t, 0, none⟩ = some (.map (some b)) := blk_cell h.blk 0
  obtain ⟨D, hown, hab⟩ := h.map
  have HO := Lib.hid hown
  have HA := Lib.hid hab
  have HW := Lib.hid (keyOf_int_mk Try.underlying3 (wf_who hw))
  have HB0 := Lib.hid (Below.refl w.heap.size w)
  clear h hown hab hw
  go_enter Try.func32, Try.ntmps32
  go_wp2_with (at_lookup; refine wpList_lookup_own_ok _ rfl _ _ 76 rfl 3 80 law3 Try.underlying76 nearE (zero80 _) (pr (0, 0)) [] rfl b 48 D rfl HO.out _ (ky who) rfl HW.out ?_; intro v ps hv; obtain ⟨a, q, hvv, hd⟩ := nearE_inv2 hv; subst hvv; have HL := Lib.hid (ab_look HA.out who hd); rw [HL.out.1]; clear hv hd)
  go_ret2
  refine ⟨?_, ?_⟩
  · exact (show Ending.returned (.tuple #[.int .i64 a, .bool (atF f who).isSome]) = Ending.returned (.tuple #[.int .i64 ((atF f who).getD (0, 0)).1, .bool (atF f who).isSome]) by rw [← HL.out.2])
  · exact Lib.hid (below_alloc (Below.refl _ _) _)
def dropF (f : FT) (who : Int) : FT := if 0 ≤ who ∧ who < 48 then upd f who.toNat none else f
set_option maxRecDepth 100000 in
set_option maxHeartbeats 4000000 in
theorem Drop_calls (w : World) (t b : Nat) (f : FT) (h : Tab w t b f) (who : Int) (hw : -9223372036854775808 ≤ who ∧ who ≤ 9223372036854775807) :
    Calls Try.prog 29 #[.pointer (some ⟨t, 0, none⟩), .int .i64 who] w fun e w' => e = .returned (.tuple #[]) ∧ Hid (Tab w' t b (dropF f who)) ∧ Hid (w.grownBy w' (some b)) := by
  have c0 : w.cell? ⟨t, 0, none⟩ = some (.map (some b)) := blk_cell h.blk 0
  have HT := Lib.hid h
  obtain ⟨D, hown, hab⟩ := h.map
  have HO := Lib.hid hown
  have HA := Lib.hid hab
  have HW := Lib.hid (keyOf_int_mk Try.underlying3 (wf_who hw))
  clear h hown hab hw
  go_enter Try.func29, Try.ntmps29
  go_wp2_with (at_delete; refine wpList_delete_own _ rfl _ _ 76 3 rfl 80 law3 Try.underlying76 nearE b 48 D rfl HO.out _ (ky who) rfl HW.out ?_; intro w1 ho1 ht1; have HO1 := Lib.hid ho1; have HT1 := Lib.hid ht1; clear ho1 ht1)
  go_end0
  have hg := HT1.out.grown
  refine ⟨rfl, Lib.hid ⟨(hg.block t HT.out.lt.1 (fun e => HT.out.ne (Option.some.inj e))).trans HT.out.blk, _, HO1.out, ?_⟩, Lib.hid hg⟩
  unfold dropF
  by_cases hr : 0 ≤ who ∧ who < 48
  · rw [if_pos hr]
    have := HA.out.del (k := who.toNat) (by omega)
    rw [show ((who.toNat : Nat) : Int) = who by omega] at this
    exact this
  · rw [if_neg hr]
    exact HA.out.del_out (by omega)
theorem hOwnIsMap {w : World} {b n : Nat} {D : DataW Unit} (h : w.ownsMap Try.prog 3 nearE b n D) : IsMap D := h.isMap
def hearF (f : FT) (who : Int) : Int × FT :=
  if 0 ≤ who ∧ who < 48 then (match f who.toNat with
    | some v => (0, upd f who.toNat (some (v.1, 0)))
    | none => if (nums f).length = 16 then (7, f) else (0, upd f who.toNat (some (0, 0))))
  else (1, f)
set_option maxRecDepth 100000 in
set_option maxHeartbeats 4000000 in
theorem Hear_calls (w : World) (t b : Nat) (f : FT) (h : Tab w t b f) (who : Int) (r : Int) (f' : FT) (hr : hearF f who = (r, f')) :
    Calls Try.prog 25 #[.pointer (some ⟨t, 0, none⟩), .int .i64 who] w fun e w' => e = .returned (.int .i64 r) ∧ Hid (Tab w' t b f') ∧ Hid (w.grownBy w' (some b)) := by
  have c0 : w.cell? ⟨t, 0, none⟩ = some (.map (some b)) := blk_cell h.blk 0
  have HT := Lib.hid h
  obtain ⟨D, hown, hab⟩ := h.map
  have HO := Lib.hid hown
  have HA := Lib.hid hab
  have HG0 : Hid (w.grownBy w (some b)) := Lib.hid (World.grownBy.refl w _)
  have HRR := Lib.hid hr
  clear h hown hab hr
  by_cases h0 : who < 0
  · have d0 : decide (who < 0) = true := decide_eq_true h0
    have e := HRR.out
    unfold hearF at e
    rw [if_neg (by omega)] at e
    cases e
    clear h0 HRR
    go_enter Try.func25, Try.ntmps25
    go_wp2_with fail
    go_ret
    exact ⟨rfl, HT, HG0⟩
  have d0 : decide (who < 0) = false := decide_eq_false h0
  by_cases h1 : 48 ≤ who
  · have d1 : decide (48 ≤ who) = true := decide_eq_true h1
    have e := HRR.out
    unfold hearF at e
    rw [if_neg (by omega)] at e
    cases e
    clear h0 h1 HRR
    go_enter Try.func25, Try.ntmps25
    go_wp2_with fail
    go_ret
    exact ⟨rfl, HT, HG0⟩
  have d1 : decide (48 ≤ who) = false := decide_eq_false h1
  have HW := Lib.hid (keyOf_int_mk Try.underlying3 (wf_who (k := who) (by omega)))
  have HI : Hid (0 ≤ who ∧ who < 48) := Lib.hid (by omega)
  have HH : Hid (hearF f who = (match f who.toNat with
    | some v => (0, upd f who.toNat (some (v.1, 0)))
    | none => if (nums f).length = 16 then (7, f) else (0, upd f who.toNat (some (0, 0))))) := Lib.hid (by unfold hearF; rw [if_pos (by omega)])
  have HAT : Hid (atF f who = f who.toNat) := Lib.hid (by unfold atF; rw [if_pos (by omega)])
  clear h0 h1 HG0
  have HSZ := Lib.hid (size_ab HO.out Try.underlying3 HA.out)
  cases hf : f who.toNat with
  | some v =>
    have HF := Lib.hid hf
    have e := HH.out
    rw [HRR.out, hf] at e
    dsimp only at e
    obtain ⟨va, vq⟩ := v
    have e1 := (Prod.mk.inj e).1
    have e2 := (Prod.mk.inj e).2
    subst e1 e2
    clear hf e HH HRR
    go_enter Try.func25, Try.ntmps25
    go_wp2_with (at_lookup; refine wpList_lookup_own_ok _ rfl _ _ 76 rfl 3 80 law3 Try.underlying76 nearE (zero80 _) (pr (0, 0)) [] rfl b 48 D rfl HO.out _ (ky who) rfl HW.out ?_; intro v ps hv; obtain ⟨a, q, hvv, hd⟩ := nearE_inv2 hv; subst hvv; have HL := Lib.hid (ab_look HA.out who hd); have e3 := HL.out.2; have e4 := HL.out.1; rw [HAT.out, HF.out] at e3 e4; rw [e4]; cases e3; clear hv hd e4)
    have HB1 : Hid (Below w.heap.size w (w.alloc (.cells #[.int .i64 va, .int .i64 0] 80 (0, 0)))) := Lib.hid (below_alloc (Below.refl _ _) _)
    have HQ1 : Hid ((w.alloc (.cells #[.int .i64 va, .int .i64 0] 80 (0, 0))).heap[w.heap.size]? = some (.cells #[.int .i64 va, .int .i64 0] 80 (0, 0))) := Lib.hid (blk_new w _)
    generalize w.alloc (.cells #[.int .i64 va, .int .i64 0] 80 (0, 0)) = W at HB1 HQ1 ⊢
    have HB2 := Lib.hid (HB1.out.trans (pw_below_drewN (Below.refl _ W) 1))
    have HQ2 : Hid (W.drew.heap[w.heap.size]? = some (.cells #[.int .i64 va, .int .i64 0] 80 (0, 0))) := Lib.hid HQ1.out
    obtain ⟨w1, hrun, ho1, hg1⟩ := (World.ownsMap.kept HO.out (grown_of_below HB2.out none) (by simp)).store law3 Try.underlying76 (by unfold maxLen; omega) HW.out (nearE_mk (va, 0))
    have HT2 := Lib.hid (HT.out.below HB2.out)
    have HT1 := Lib.hid hg1.grown
    have HO1 := Lib.hid ho1
    have HRUN := Lib.hid hrun
    have HG2 : Hid (w.grownBy W.drew (some b)) := Lib.hid (World.grownBy.but (grown_of_below HB2.out none) (some b))
    have HQN : Hid (w.heap.size ≠ b) := Lib.hid (by have := HT.out.lt.2; omega)
    generalize w.heap.size = q at HQ1 HQ2 HQN HB1 HB2 ⊢
    clear hrun ho1 hg1 HB1 HQ1
    refine rl_start (fun W' => W'.cell? ⟨t, 0, none⟩ = some (.map (some b)) ∧ W'.heap[q]? = some (.cells #[.int .i64 va, .int .i64 0] 80 (0, 0))) 7 (by kernel_rfl) rfl ⟨blk_cell HT2.out.blk 0, HQ2.out⟩ (fun HS => ?_)
    repeat (first
      | ((with_reducible refine rlg_load (ty := 76) rfl ?_); refine rl_cell (ad := ⟨t, 0, none⟩) (v := .map (some b)) rfl (by kernel_rfl) (fun _ _ _ h => h) (by rfl) HS (by rfl) Try.underlying76 rfl (fun W hW => hW.1) ?_; (try simp only [Act.put, List.setIfInBounds_toArray, List.set_cons_zero, List.set_cons_succ, Nat.reduceAdd]))
      | ((with_reducible refine rlg_load (ty := 80) rfl ?_); refine rl_cells (ad := ⟨q, 0, none⟩) (cs := [.int .i64 va, .int .i64 0]) rfl (by kernel_rfl) (fun _ _ _ h => h) (by rfl) HS (by rfl) Try.underlying80 rfl (by kernel_rfl) (fun W hW j u hu => by rw [add_plain, blk_cell hW.2]; simpa using hu) ?_; (try simp only [Act.put, List.setIfInBounds_toArray, List.set_cons_zero, List.set_cons_succ, Nat.reduceAdd]))
      | (refine rl_map (b := b) (key := .int .i64 who) (val := .agg #[.int .i64 va, .int .i64 0]) rfl (by kernel_rfl) (by rfl) (by rfl) (by rfl) (by rfl) HRUN.out ⟨blk_cell ((HT1.out.block t HT2.out.lt.1 (fun e => HT.out.ne (Option.some.inj e))).trans HT2.out.blk) 0, (HT1.out.block q (blk_lt HQ2.out) (fun e => HQN.out (Option.some.inj e))).trans HQ2.out⟩ (fun _ => ?_); (try simp only [Act.put, List.setIfInBounds_toArray, List.set_cons_zero, List.set_cons_succ, Nat.reduceAdd]))
      | (refine rl_pureK (by kernel_rfl) (fun _ _ _ h => h) (by rfl) (fun W K hK => by go_simp; exact hK.out) ?_; (try simp only [Act.put, List.setIfInBounds_toArray, List.set_cons_zero, List.set_cons_succ, Nat.reduceAdd])))
    refine rl_done (by kernel_rfl) ?_
    go_wp2
    go_ret
    have hab2 := HA.out.put (hOwnIsMap HO.out) (k := who.toNat) (by have := HI.out; omega) (va, 0)
    rw [show ((who.toNat : Nat) : Int) = who by have := HI.out; omega] at hab2
    refine ⟨rfl, Lib.hid ⟨(HT1.out.block t HT2.out.lt.1 (fun e => HT.out.ne (Option.some.inj e))).trans HT2.out.blk, _, own48 HO1.out Try.underlying3 hab2, hab2⟩, Lib.hid ?_⟩
    exact HG2.out.andThen HT1.out (fun j e => .inr e)
  | none =>
    have c1 : ∀ o, (w.alloc o).cell? ⟨t, 0, none⟩ = some (.map (some b)) := fun o => pw_cell_below (below_alloc (Below.refl _ _) o) c0
    have HF := Lib.hid hf
    have e := HH.out
    rw [HRR.out, hf] at e
    dsimp only at e
    by_cases h16 : (nums f).length = 16
    · rw [if_pos h16] at e
      have e1 := (Prod.mk.inj e).1
      have e2 := (Prod.mk.inj e).2
      subst e1 e2
      have hlen : ∀ o, (Builtin.len_ #[76] 3 #[.map (some b)]).run Try.prog (w.alloc o) = .ok (.int .i64 16) (w.alloc o) := fun o => by
        rw [World.ownsMap.len (World.ownsMap.kept HO.out (World.grownBy_alloc w o none) (by simp)) Try.underlying76, HSZ.out, h16]
        rfl
      clear hf e HH HRR h16
      go_enter Try.func25, Try.ntmps25
      go_wp2_with (at_lookup; refine wpList_lookup_own_ok _ rfl _ _ 76 rfl 3 80 law3 Try.underlying76 nearE (zero80 _) (pr (0, 0)) [] rfl b 48 D rfl HO.out _ (ky who) rfl HW.out ?_; intro v ps hv; obtain ⟨a, q, hvv, hd⟩ := nearE_inv2 hv; subst hvv; have HL := Lib.hid (ab_look HA.out who hd); have e3 := HL.out.2; have e4 := HL.out.1; rw [HAT.out, HF.out] at e3 e4; rw [e4]; cases e3; clear hv hd e4)
      go_ret
      exact ⟨rfl, Lib.hid (HT.out.below (below_alloc (Below.refl _ _) _)), Lib.hid (World.grownBy_alloc w _ _)⟩
    · rw [if_neg h16] at e
      have e1 := (Prod.mk.inj e).1
      have e2 := (Prod.mk.inj e).2
      subst e1 e2
      obtain ⟨m, hm⟩ : ∃ m, (nums f).length = m := ⟨_, rfl⟩
      rw [hm] at h16 HSZ
      have hm16 : ((m : Int) == 16) = false := beq_eq_false_iff_ne.2 (by omega)
      have hm17 : (m == 16) = false := beq_eq_false_iff_ne.2 h16
      have hlen : ∀ o, (Builtin.len_ #[76] 3 #[.map (some b)]).run Try.prog (w.alloc o) = .ok (.int .i64 m) (w.alloc o) := fun o => by
        rw [World.ownsMap.len (World.ownsMap.kept HO.out (World.grownBy_alloc w o none) (by simp)) Try.underlying76, HSZ.out]
      clear hf e HH HRR h16 hm
      go_enter Try.func25, Try.ntmps25
      go_wp2_with (at_lookup; refine wpList_lookup_own_ok _ rfl _ _ 76 rfl 3 80 law3 Try.underlying76 nearE (zero80 _) (pr (0, 0)) [] rfl b 48 D rfl HO.out _ (ky who) rfl HW.out ?_; intro v ps hv; obtain ⟨a, q, hvv, hd⟩ := nearE_inv2 hv; subst hvv; have HL := Lib.hid (ab_look HA.out who hd); have e3 := HL.out.2; have e4 := HL.out.1; rw [HAT.out, HF.out] at e3 e4; rw [e4]; cases e3; clear hv hd e4)
      have HB1 : Hid (Below w.heap.size w (w.alloc (.cells #[.int .i64 0, .int .i64 0] 80 (0, 0)))) := Lib.hid (below_alloc (Below.refl _ _) _)
      have HQ1 : Hid ((w.alloc (.cells #[.int .i64 0, .int .i64 0] 80 (0, 0))).heap[w.heap.size]? = some (.cells #[.int .i64 0, .int .i64 0] 80 (0, 0))) := Lib.hid (blk_new w _)
      generalize w.alloc (.cells #[.int .i64 0, .int .i64 0] 80 (0, 0)) = W at HB1 HQ1 ⊢
      have HB2 := Lib.hid (HB1.out.trans (pw_below_drewN (Below.refl _ W) 1))
      have HQ2 : Hid (W.drew.heap[w.heap.size]? = some (.cells #[.int .i64 0, .int .i64 0] 80 (0, 0))) := Lib.hid HQ1.out
      obtain ⟨w1, hrun, ho1, hg1⟩ := (World.ownsMap.kept HO.out (grown_of_below HB2.out none) (by simp)).store law3 Try.underlying76 (by unfold maxLen; omega) HW.out (nearE_mk (0, 0))
      have HT2 := Lib.hid (HT.out.below HB2.out)
      have HT1 := Lib.hid hg1.grown
      have HO1 := Lib.hid ho1
      have HRUN := Lib.hid hrun
      have HG2 : Hid (w.grownBy W.drew (some b)) := Lib.hid (World.grownBy.but (grown_of_below HB2.out none) (some b))
      have HQN : Hid (w.heap.size ≠ b) := Lib.hid (by have := HT.out.lt.2; omega)
      generalize w.heap.size = q at HQ1 HQ2 HQN HB1 HB2 ⊢
      clear hrun ho1 hg1 HB1 HQ1
      refine rl_start (fun W' => W'.cell? ⟨t, 0, none⟩ = some (.map (some b)) ∧ W'.heap[q]? = some (.cells #[.int .i64 0, .int .i64 0] 80 (0, 0))) 7 (by kernel_rfl) rfl ⟨blk_cell HT2.out.blk 0, HQ2.out⟩ (fun HS => ?_)
      repeat (first
        | ((with_reducible refine rlg_load (ty := 76) rfl ?_); refine rl_cell (ad := ⟨t, 0, none⟩) (v := .map (some b)) rfl (by kernel_rfl) (fun _ _ _ h => h) (by rfl) HS (by rfl) Try.underlying76 rfl (fun W hW => hW.1) ?_; (try simp only [Act.put, List.setIfInBounds_toArray, List.set_cons_zero, List.set_cons_succ, Nat.reduceAdd]))
        | ((with_reducible refine rlg_load (ty := 80) rfl ?_); refine rl_cells (ad := ⟨q, 0, none⟩) (cs := [.int .i64 0, .int .i64 0]) rfl (by kernel_rfl) (fun _ _ _ h => h) (by rfl) HS (by rfl) Try.underlying80 rfl (by kernel_rfl) (fun W hW j u hu => by rw [add_plain, blk_cell hW.2]; simpa using hu) ?_; (try simp only [Act.put, List.setIfInBounds_toArray, List.set_cons_zero, List.set_cons_succ, Nat.reduceAdd]))
        | (refine rl_map (b := b) (key := .int .i64 who) (val := .agg #[.int .i64 0, .int .i64 0]) rfl (by kernel_rfl) (by rfl) (by rfl) (by rfl) (by rfl) HRUN.out ⟨blk_cell ((HT1.out.block t HT2.out.lt.1 (fun e => HT.out.ne (Option.some.inj e))).trans HT2.out.blk) 0, (HT1.out.block q (blk_lt HQ2.out) (fun e => HQN.out (Option.some.inj e))).trans HQ2.out⟩ (fun _ => ?_); (try simp only [Act.put, List.setIfInBounds_toArray, List.set_cons_zero, List.set_cons_succ, Nat.reduceAdd]))
        | (refine rl_pureK (by kernel_rfl) (fun _ _ _ h => h) (by rfl) (fun W K hK => by go_simp; exact hK.out) ?_; (try simp only [Act.put, List.setIfInBounds_toArray, List.set_cons_zero, List.set_cons_succ, Nat.reduceAdd])))
      refine rl_done (by kernel_rfl) ?_
      go_wp2
      go_ret
      have hab2 := HA.out.put (hOwnIsMap HO.out) (k := who.toNat) (by have := HI.out; omega) (0, 0)
      rw [show ((who.toNat : Nat) : Int) = who by have := HI.out; omega] at hab2
      refine ⟨rfl, Lib.hid ⟨(HT1.out.block t HT2.out.lt.1 (fun e => HT.out.ne (Option.some.inj e))).trans HT2.out.blk, _, own48 HO1.out Try.underlying3 hab2, hab2⟩, Lib.hid ?_⟩
      exact HG2.out.andThen HT1.out (fun j e => .inr e)
set_option maxRecDepth 100000 in
set_option maxHeartbeats 4000000 in
theorem New_calls (w : World) : Calls Try.prog 24 #[] w fun e w' => e = .returned (.pointer (some ⟨w.heap.size + 1, 0, none⟩)) ∧ Hid (Tab w' (w.heap.size + 1) w.heap.size (fun _ => none)) ∧ Hid (Below w.heap.size w w') := by
  have hmm := @run_makeMap Try.prog
  have HM : Hid ((w.alloc (.map #[] 0)).ownsMap Try.prog 3 nearE w.heap.size 0 (.map [])) := Lib.hid (World.ownsMap_made _ _ _ _)
  go_enter Try.func24, Try.ntmps24
  go_wp2
  go_ret
  refine ⟨by simp, Lib.hid ⟨?_, _, (HM.out.alloc _).mono (by omega), ab_empty⟩, Lib.hid (below_alloc (below_alloc (Below.refl _ _) _) _)⟩
  have := blk_new (w.alloc (.map #[] 0)) (.cells #[.map (some w.heap.size)] 78 (0, 0))
  simpa using this
end Go.Proofs.Ytcopnddmkmgihaa.Mb
