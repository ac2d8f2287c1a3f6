/- MemberFew: neighbours are never more than may be, stand in order, each once, and were heard: the walk. -/
import Derived.Test.YtcopnddmkmgihaaMk
namespace Go.Proofs.Ytcopnddmkmgihaa.Mb
open Go.RowKit Go.Maps Go.Sort Go.Shelf Go.ChangeMaps Go.MapKept Go.Proofs.YtcopnddmkmgihaaW.PrintWords Go.Proofs.YtcopnddmkmgihaaW.PrintLast Go.Proofs.YtcopnddmkmgihaaW.PrintMore Go.Proofs.YtcopnddmkmgihaaEv Go.Proofs.YtcopnddmkmgihaaRx
set_option linter.unusedVariables false
set_option linter.unusedSimpArgs false
/-! plain: who is a neighbour was heard; never more than sixteen -/
theorem nums_le {f g : FT} (h : ∀ k, k < 48 → (f k).isSome = true → (g k).isSome = true) : (nums f).length ≤ (nums g).length := by
  unfold nums
  rw [List.length_map, List.length_map, ← List.countP_eq_length_filter, ← List.countP_eq_length_filter]
  exact List.countP_mono_left (fun x hx => h x (List.mem_range.1 hx))
theorem nums_new {f : FT} {k : Nat} {v : Int × Int} (hk : k < 48) (h : f k = none) : (nums (upd f k (some v))).length ≤ (nums f).length + 1 := by
  unfold nums
  rw [List.length_map, List.length_map]
  suffices H : ∀ n, ((List.range n).filter (fun j => (upd f k (some v) j).isSome)).length ≤ ((List.range n).filter (fun j => (f j).isSome)).length + (if k < n then 1 else 0) by
    have := H 48
    rw [if_pos hk] at this
    exact this
  intro n
  induction n with
  | zero => simp
  | succ n ih =>
    rw [List.range_succ, List.filter_append, List.filter_append, List.length_append, List.length_append]
    by_cases e : k = n
    · subst e
      rw [if_neg (by omega)] at ih
      rw [if_pos (by omega)]
      have := List.length_filter_le (fun j => (upd f k (some v) j).isSome) [k]
      simp only [List.length_cons, List.length_nil] at this
      omega
    · have e2 : [n].filter (fun j => (upd f k (some v) j).isSome) = [n].filter (fun j => (f j).isSome) := by
        have e4 : upd f k (some v) n = f n := by unfold upd; rw [if_neg (fun q : n = k => e q.symm)]
        rw [List.filter_cons, List.filter_cons, e4]
        rfl
      rw [e2]
      have e3 : (if k < n + 1 then 1 else 0) = (if k < n then 1 else 0) := by
        by_cases q : k < n
        · rw [if_pos q, if_pos (by omega)]
        · rw [if_neg q, if_neg (by omega)]
      rw [e3]
      omega
structure All (f : FT) (offs : List Bool) : Prop where
  heard : ∀ k, k < 48 → (f k).isSome = true → offs[k]? = some true
  few : (nums f).length ≤ 16
theorem all_none : All (fun _ => none) (List.replicate 48 false) := ⟨(fun k _ h => nomatch h), by rw [show nums (fun _ => none) = [] from rfl]; decide⟩
theorem All.mono {f g : FT} {offs : List Bool} (h : All f offs) (s : ∀ k, k < 48 → (g k).isSome = true → (f k).isSome = true) : All g offs :=
  ⟨fun k hk hs => h.heard k hk (s k hk hs), Nat.le_trans (nums_le s) h.few⟩
theorem All.tick {f : FT} {offs : List Bool} (h : All f offs) (p : Int) : All (tickF p f) offs := h.mono (fun k _ hs => by
  unfold tickF at hs
  cases hf : f k with
  | none => rw [hf] at hs; cases hs
  | some v => rfl)
theorem All.drop {f : FT} {offs : List Bool} (h : All f offs) (who : Int) : All (dropF f who) offs := h.mono (fun k _ hs => by
  unfold dropF at hs
  split at hs
  · unfold upd at hs
    split at hs
    · cases hs
    · exact hs
  · exact hs)
theorem All.hear {f f' : FT} {offs : List Bool} (h : All f offs) (hl : offs.length = 48) {who : Int} (e : hearF f who = (0, f')) : All f' (offs.set who.toNat true) := by
  have hr := hearF_range (f := f) (who := who) (by rw [e])
  unfold hearF at e
  rw [if_pos hr] at e
  have set_at : ∀ k, k < 48 → k ≠ who.toNat → (offs.set who.toNat true)[k]? = offs[k]? := fun k hk hne => by rw [List.getElem?_set_ne (fun q => hne q.symm)]
  have set_who : (offs.set who.toNat true)[who.toNat]? = some true := by rw [List.getElem?_set_self (by omega)]
  cases hf : f who.toNat with
  | some v =>
    rw [hf] at e
    cases e
    refine ⟨fun k hk hs => ?_, Nat.le_trans (nums_le (fun k hk hs => ?_)) h.few⟩
    · by_cases q : k = who.toNat
      · rw [q]; exact set_who
      · rw [set_at k hk q]
        unfold upd at hs
        rw [if_neg q] at hs
        exact h.heard k hk hs
    · unfold upd at hs
      split at hs
      · rename_i q
        rw [q, hf]; rfl
      · exact hs
  | none =>
    rw [hf] at e
    dsimp only at e
    split at e
    · cases e
    · cases e
      refine ⟨fun k hk hs => ?_, Nat.le_trans (nums_new (by omega) hf) (by have := h.few; omega)⟩
      by_cases q : k = who.toNat
      · rw [q]; exact set_who
      · rw [set_at k hk q]
        unfold upd at hs
        rw [if_neg q] at hs
        exact h.heard k hk hs
theorem hear_not {f f' : FT} {who r : Int} (e : hearF f who = (r, f')) (hr : r ≠ 0) : f' = f := by
  unfold hearF at e
  split at e
  · split at e
    · cases e; exact absurd rfl hr
    · split at e
      · cases e; rfl
      · cases e; exact absurd rfl hr
  · cases e; rfl
/-! in memory -/
structure Hd (w0 w : World) (t b : Nat) (f : FT) (g : Nat) (offs : List Bool) : Prop where
  st : St w0 w t b f
  blk : w.heap[g]? = some (.cells (offs.map Value.bool).toArray 61 (0, 0))
  low : w0.heap.size ≤ g
  len : offs.length = 48
theorem Hd.ne {w0 w : World} {t b : Nat} {f : FT} {g : Nat} {offs : List Bool} (h : Hd w0 w t b f g offs) : g ≠ t ∧ g ≠ b := by
  refine ⟨fun e => ?_, fun e => ?_⟩
  · have := h.blk
    rw [e, h.st.tab.blk] at this
    simp at this
  · obtain ⟨D, ⟨es, clock, hb, _⟩, _⟩ := h.st.tab.map
    have := h.blk
    rw [e, hb] at this
    cases this
theorem Hd.lt {w0 w : World} {t b : Nat} {f : FT} {g : Nat} {offs : List Bool} (h : Hd w0 w t b f g offs) : g < w.heap.size := blk_lt h.blk
theorem Hd.after {w0 w w1 : World} {t b : Nat} {f f' : FT} {g : Nat} {offs : List Bool} (h : Hd w0 w t b f g offs) (hs : St w0 w1 t b f') (hg : w.grownBy w1 (some b)) : Hd w0 w1 t b f' g offs :=
  ⟨hs, (hg.block g h.lt (by intro e; cases e; exact h.ne.2 rfl)).trans h.blk, h.low, h.len⟩
theorem Hd.below {w0 w w1 : World} {t b : Nat} {f : FT} {g : Nat} {offs : List Bool} (h : Hd w0 w t b f g offs) (hb : Below w.heap.size w w1) : Hd w0 w1 t b f g offs :=
  ⟨h.st.keep hb, (hb.block g h.lt).trans h.blk, h.low, h.len⟩
theorem Hd.grew {w0 w : World} {t b : Nat} {f : FT} {g : Nat} {offs : List Bool} (h : Hd w0 w t b f g offs) (o : Obj) : Hd w0 (w.alloc o) t b f g offs := h.below (below_alloc (Below.refl _ _) _)
theorem Hd.cell {w0 w : World} {t b : Nat} {f : FT} {g : Nat} {offs : List Bool} (h : Hd w0 w t b f g offs) {i : Nat} {x : Bool} (hi : offs[i]? = some x) : w.cell? ⟨g, i, none⟩ = some (.bool x) := by
  rw [blk_cell h.blk]
  simp [hi]
theorem Hd.set {w0 w : World} {t b : Nat} {f : FT} {g : Nat} {offs : List Bool} (h : Hd w0 w t b f g offs) (i : Nat) (x : Bool) : Hd w0 (w.setCell ⟨g, i, none⟩ (.bool x)) t b f g (offs.set i x) := by
  have hgr : w.grownBy (w.setCell ⟨g, i, none⟩ (.bool x)) (some g) := ⟨rfl, rfl, rfl, (KeepsWalks.setCell w _ _).size, fun k _ hk => Below.heap_setCell _ _ _ k (fun e => hk (by rw [e]))⟩
  refine ⟨⟨h.st.tab.kept hgr (fun e => by cases e; exact h.ne.1 rfl) (fun e => by cases e; exact h.ne.2 rfl), h.st.good, h.st.below.grown hgr h.st.below.size (fun k e => by cases e; exact h.low), h.st.new⟩, ?_, h.low, by rw [List.length_set]; exact h.len⟩
  rw [blk_set h.blk]
  congr 2
  apply Array.ext_getElem?
  intro j
  rw [Array.getElem?_setIfInBounds]
  simp only [List.size_toArray, List.length_map, List.getElem?_toArray, List.getElem?_map, List.getElem?_set]
  by_cases e : i = j
  · subst e
    simp only [if_true]
    split <;> simp_all
  · simp [e]
theorem row_ints {w : World} {base n : Nat} {A : Option Addr} {c : Nat} {xs : List Int} (h : w.ownsRow base 3 1 (.slice A n c) n (xs.map (.int .i64))) : xs.length = n ∧ ∀ j (hj : j < xs.length), ∃ g, A = some ⟨g, 0, none⟩ ∧ w.cell? ⟨g, j, none⟩ = some (.int .i64 xs[j]) := by
  have hl := h.1
  rw [List.length_map, Nat.mul_one] at hl
  refine ⟨hl, ?_⟩
  rcases h.2 with ⟨_, h0⟩ | ⟨g, cap, cur, e, hg, h1, _, h3, h4⟩
  · exact fun j hj => by omega
  · injection e with e
    subst e
    refine fun j hj => ⟨g, rfl, ?_⟩
    rw [blk_cell h1]
    have h5 : (cur.toList.take (n * 1))[j]? = some (.int .i64 xs[j]) := by
      rw [h4.2, List.getElem?_map, List.getElem?_eq_getElem hj]
      rfl
    rw [List.getElem?_take] at h5
    split at h5
    · simpa using h5
    · cases h5
theorem nums_at (f : FT) (j : Nat) (hj : j < (nums f).length) : ∃ k : Nat, (nums f)[j] = (k : Int) ∧ k < 48 ∧ (f k).isSome = true := by
  obtain ⟨k, h1, h2, h3⟩ := mem_nums.1 (List.getElem_mem hj)
  exact ⟨k, h2, h1, h3⟩
theorem nums_rise (f : FT) (j : Nat) (hj : j + 1 < (nums f).length) : (nums f)[j] < (nums f)[j + 1] := List.pairwise_iff_getElem.1 (nums_pair f) j (j + 1) (by omega) hj (by omega)
theorem nums_rise2 (f : FT) (j : Nat) (hj : j < (nums f).length) (h0 : ¬ j = 0) (h1 : j - 1 < (nums f).length) : (nums f)[j - 1]'h1 < (nums f)[j]'hj := List.pairwise_iff_getElem.1 (nums_pair f) (j - 1) j h1 hj (by omega)
set_option maxRecDepth 100000 in
set_option maxHeartbeats 8000000 in
theorem clepsydralaw14_MemberFew.calls (A0 : Option Addr) (c0 : Nat) (l0 : List S55) (w : World) (hr0 : Kd.C k55 w A0 l0.length l0) (hc0 : l0.length ≤ c0) (hw0 : Wf55 l0) :
    Calls Try.prog 10 #[.slice A0 l0.length c0] w fun e w' => e = .returned (.bool true) ∧ Below w.heap.size w w' := by
  have R0 := Lib.hid hr0
  have W0 := Lib.hid hw0
  clear hr0 hc0 hw0
  by_cases g0 : (l0.length : Int) > 400
  · skip
    go_enter Try.func10, Try.ntmps10
    go_wp2_with (go_at_call 23; (with_reducible refine (alive_calls _).mono ?_); rintro e wa ⟨rfl, HB⟩)
    go_ret
    exact ⟨rfl, HB.out⟩
  have HL : Hid (l0.length ≤ 400) := Lib.hid (by omega)
  go_enter Try.func10, Try.ntmps10
  go_wp2_with (first
    | (go_at_call 23; (with_reducible refine (alive_calls _).mono ?_); rintro e wa ⟨rfl, HB⟩)
    | (go_at_call 24; (with_reducible refine (new_to w _ HB.out).mono ?_); rintro e w1 ⟨t, b, rfl, S0, B0⟩))
  clear g0
  have HM0 : Hid (Hd w (w1.alloc (.cells ((List.replicate 48 false).map Value.bool).toArray 61 (0, 0))) t b (fun _ => none) w1.heap.size (List.replicate 48 false)) := Lib.hid ⟨S0.out.grew _, blk_new w1 _, S0.out.below.size, by simp⟩
  clear S0 B0 HB
  generalize w1.heap.size = g at HM0 ⊢
  go_loopw [18] (fun v18 wr => ∃ (k : Nat) (f : FT) (offs : List Bool), k ≤ l0.length ∧ v18 = .int .i64 k ∧ Hid (Hd w wr t b f g offs) ∧ Hid (All f offs)) (fun v18 _ => l0.length - (intOf v18).toNat)
  case atStart => exact ⟨0, _, _, by omega, rfl, HM0, Lib.hid all_none⟩
  case round =>
    clear HM0
    obtain ⟨k, f, offs, hk, rfl, HM, HA⟩ := hrel
    by_cases hlt : k < l0.length
    · have hk1 : (k : Int) < (l0.length : Int) := by omega
      have hs1 : -9223372036854775808 ≤ (k : Int) + 1 := by omega
      have hs2 : (k : Int) + 1 ≤ 9223372036854775807 := by have := HL.out; omega
      obtain ⟨ad, e, hx⟩ := in55 R0.out HM.out.st.below k hlt
      cases e
      have HW := Lib.hid (rd55_wf W0.out k)
      generalize (rd55 l0 k).f0 = x0 at hx
      generalize (rd55 l0 k).f1 = x1 at hx HW
      have HC := Lib.hid hx
      clear hx
      by_cases k0 : x0 = 0
      · subst k0
        cases hh : hearF f x1 with
        | mk r f1 =>
          have HH := Lib.hid hh
          clear hh
          by_cases hr : r = 0
          · subst hr
            have hr1 := (hearF_range (f := f) (who := x1) (by rw [HH.out])).1
            have hr2 := (hearF_range (f := f) (who := x1) (by rw [HH.out])).2
            go_wp2_with ((with_reducible refine gate_dst (N := 21) rfl ?_); refine load_cells rfl rfl (ad := ad.add (k * 2)) (cs := [.int .i64 0, .int .i64 x1]) ?hx Try.underlying55 rfl (by kernel_rfl) HC.out ?_; (case hx => go_simp; done))
            have hbb : b < wr.heap.size := HM.out.st.tab.lt.2
            refine (hear_to (HM.out.st.grew _) x1 0 f1 HH.out).mono ?_
            rintro e w2 ⟨rfl, S1, G1⟩
            have hc2 : w2.cell? ⟨wr.heap.size, 1, none⟩ = some (.int .i64 x1) := by
              refine G1.out.cell (a := ⟨wr.heap.size, 1, none⟩) ?_ (fun e => by injection e with e; exact absurd e (by show wr.heap.size ≠ b; omega))
              rw [blk_cell (blk_new wr _)]
              rfl
            clear hbb
            have HM1 := Lib.hid ((HM.out.grew _).after S1.out G1.out)
            have HA1 := Lib.hid (HA.out.hear HM.out.len HH.out)
            obtain ⟨y, hy⟩ : ∃ y, offs[x1.toNat]? = some y := ⟨_, List.getElem?_eq_getElem (by have := HM.out.len; omega)⟩
            have hc3 := HM1.out.cell hy
            have hc4 : w2.frozen? ⟨g, x1.toNat, none⟩ = false := blk_frozen HM1.out.blk _
            have HM2 := Lib.hid (HM1.out.set x1.toNat true)
            clear S1 HM HM1 hy
            have HM1 := HM2
            clear HM2
            obtain ⟨m, hm⟩ : ∃ m, (nums f1).length = m := ⟨_, rfl⟩
            have hm16 : decide ((16 : Int) < (m : Int)) = false := decide_eq_false (by have := HA1.out.few; omega)
            have HMM := Lib.hid hm
            have HM16 : Hid (m ≤ 16) := Lib.hid (by have := HA1.out.few; omega)
            clear hm
            go_wp2_with fail
            refine (near_to HM1.out.st _ rfl m HMM.out).mono ?_
            rintro e w5 ⟨A5, c5, rfl, HO, _, HB5⟩
            have HM5 := Lib.hid (HM1.out.below HB5.out)
            have HRow := Lib.hid (row_ints HO.out).2
            clear HO HB5 HM1
            go_wp2_with fail
            go_loopw [63] (fun v63 wr' => ∃ j : Nat, j ≤ m ∧ v63 = .int .i64 j ∧ wr' = w5) (fun v63 _ => m - (intOf v63).toNat)
            case atStart => exact ⟨0, by omega, rfl, rfl⟩
            case round =>
              obtain ⟨j, hj, rfl, rfl⟩ := hrel
              by_cases hlt2 : j < m
              · obtain ⟨q, e, hx⟩ := HRow.out j (by have := HMM.out; omega)
                cases e
                obtain ⟨x, hx1, hx2, hx3⟩ := nums_at f1 j (by have := HMM.out; omega)
                rw [hx1] at hx
                have hg5 := HM5.out.cell (HA1.out.heard x hx2 hx3)
                have hj1 : (j : Int) < (m : Int) := by omega
                have hj2 : -9223372036854775808 ≤ (j : Int) + 1 := by omega
                have hj3 : (j : Int) + 1 ≤ 9223372036854775807 := by have := HM16.out; omega
                have hx0 : decide ((x : Int) < 0) = false := decide_eq_false (by omega)
                have hx4 : decide (47 < (x : Int)) = false := decide_eq_false (by omega)
                have hx5 : (0 : Int) ≤ x := by omega
                have hx6 : (x : Int) < 48 := by omega
                clear hx2 hx3
                by_cases hj0 : j = 0
                · subst hj0
                  clear hx1
                  go_wp2_with fail
                  go_roundw
                  case rel => exact ⟨1, by omega, by simp, trivial⟩
                  case measure => simp [intOf]; omega
                · have hi2 : j - 1 < (nums f1).length := by have := HMM.out; omega
                  obtain ⟨q2, e, hy⟩ := HRow.out (j - 1) hi2
                  cases e
                  have hri := nums_rise2 f1 j (by have := HMM.out; omega) hj0 hi2
                  rw [hx1] at hri
                  obtain ⟨y, hye⟩ : ∃ y, (nums f1)[j - 1]'hi2 = y := ⟨_, rfl⟩
                  rw [hye] at hy hri
                  have hri2 : decide ((x : Int) ≤ y) = false := decide_eq_false (by omega)
                  clear hx1 hri hye hi2
                  have hp00 : 0 < j := by omega
                  have hp0 : decide (0 < (j : Int)) = true := decide_eq_true (by omega)
                  have hp1 : -9223372036854775808 ≤ (j : Int) - 1 := by omega
                  have hp2 : (j : Int) - 1 ≤ 9223372036854775807 := by omega
                  have hp3 : 0 ≤ (j : Int) - 1 := by omega
                  have hp4 : (j : Int) - 1 < (m : Int) := by omega
                  clear hj0
                  go_wp2_with fail
                  go_roundw
                  case rel => exact ⟨j + 1, by omega, by simp, trivial⟩
                  case measure => simp [intOf]; omega
              · obtain rfl : j = m := by omega
                go_wp2_with fail
                go_roundw
                case rel => exact ⟨k + 1, _, _, by omega, by simp, HM5, HA1⟩
                case measure => simp [intOf]; omega
          · have hre : ¬ r = 0 := hr
            have hrb : (r == 0) = false := beq_eq_false_iff_ne.mpr hr
            clear hr
            go_wp2_with ((with_reducible refine gate_dst (N := 21) rfl ?_); refine load_cells rfl rfl (ad := ad.add (k * 2)) (cs := [.int .i64 0, .int .i64 x1]) ?hx Try.underlying55 rfl (by kernel_rfl) HC.out ?_; (case hx => go_simp; done))
            refine (hear_to (HM.out.grew _).st x1 r f1 HH.out).mono ?_
            rintro e w2 ⟨rfl, S1, G1⟩
            have HM1 := Lib.hid ((HM.out.grew _).after S1.out G1.out)
            have HA1 : Hid (All f1 offs) := Lib.hid (by rw [hear_not HH.out hre]; exact HA.out)
            clear S1 HM hre
            obtain ⟨m, hm⟩ : ∃ m, (nums f1).length = m := ⟨_, rfl⟩
            have hm16 : decide ((16 : Int) < (m : Int)) = false := decide_eq_false (by have := HA1.out.few; omega)
            have HMM := Lib.hid hm
            have HM16 : Hid (m ≤ 16) := Lib.hid (by have := HA1.out.few; omega)
            clear hm
            go_wp2_with fail
            refine (near_to HM1.out.st _ rfl m HMM.out).mono ?_
            rintro e w5 ⟨A5, c5, rfl, HO, _, HB5⟩
            have HM5 := Lib.hid (HM1.out.below HB5.out)
            have HRow := Lib.hid (row_ints HO.out).2
            clear HO HB5 HM1
            go_wp2_with fail
            go_loopw [63] (fun v63 wr' => ∃ j : Nat, j ≤ m ∧ v63 = .int .i64 j ∧ wr' = w5) (fun v63 _ => m - (intOf v63).toNat)
            case atStart => exact ⟨0, by omega, rfl, rfl⟩
            case round =>
              obtain ⟨j, hj, rfl, rfl⟩ := hrel
              by_cases hlt2 : j < m
              · obtain ⟨q, e, hx⟩ := HRow.out j (by have := HMM.out; omega)
                cases e
                obtain ⟨x, hx1, hx2, hx3⟩ := nums_at f1 j (by have := HMM.out; omega)
                rw [hx1] at hx
                have hg5 := HM5.out.cell (HA1.out.heard x hx2 hx3)
                have hj1 : (j : Int) < (m : Int) := by omega
                have hj2 : -9223372036854775808 ≤ (j : Int) + 1 := by omega
                have hj3 : (j : Int) + 1 ≤ 9223372036854775807 := by have := HM16.out; omega
                have hx0 : decide ((x : Int) < 0) = false := decide_eq_false (by omega)
                have hx4 : decide (47 < (x : Int)) = false := decide_eq_false (by omega)
                have hx5 : (0 : Int) ≤ x := by omega
                have hx6 : (x : Int) < 48 := by omega
                clear hx2 hx3
                by_cases hj0 : j = 0
                · subst hj0
                  clear hx1
                  go_wp2_with fail
                  go_roundw
                  case rel => exact ⟨1, by omega, by simp, trivial⟩
                  case measure => simp [intOf]; omega
                · have hi2 : j - 1 < (nums f1).length := by have := HMM.out; omega
                  obtain ⟨q2, e, hy⟩ := HRow.out (j - 1) hi2
                  cases e
                  have hri := nums_rise2 f1 j (by have := HMM.out; omega) hj0 hi2
                  rw [hx1] at hri
                  obtain ⟨y, hye⟩ : ∃ y, (nums f1)[j - 1]'hi2 = y := ⟨_, rfl⟩
                  rw [hye] at hy hri
                  have hri2 : decide ((x : Int) ≤ y) = false := decide_eq_false (by omega)
                  clear hx1 hri hye hi2
                  have hp00 : 0 < j := by omega
                  have hp0 : decide (0 < (j : Int)) = true := decide_eq_true (by omega)
                  have hp1 : -9223372036854775808 ≤ (j : Int) - 1 := by omega
                  have hp2 : (j : Int) - 1 ≤ 9223372036854775807 := by omega
                  have hp3 : 0 ≤ (j : Int) - 1 := by omega
                  have hp4 : (j : Int) - 1 < (m : Int) := by omega
                  clear hj0
                  go_wp2_with fail
                  go_roundw
                  case rel => exact ⟨j + 1, by omega, by simp, trivial⟩
                  case measure => simp [intOf]; omega
              · obtain rfl : j = m := by omega
                go_wp2_with fail
                go_roundw
                case rel => exact ⟨k + 1, _, _, by omega, by simp, HM5, HA1⟩
                case measure => simp [intOf]; omega
      by_cases k1 : x0 = 1
      · subst k1
        go_wp2_with ((with_reducible refine gate_dst (N := 21) rfl ?_); refine load_cells rfl rfl (ad := ad.add (k * 2)) (cs := [.int .i64 1, .int .i64 x1]) ?hx Try.underlying55 rfl (by kernel_rfl) HC.out ?_; (case hx => go_simp; done))
        refine (tick_to (HM.out.grew _).st x1 _ rfl _ rfl _ rfl).mono ?_
        rintro e w2 ⟨A2, c2, rfl, _, S1, G1⟩
        have HM1 := Lib.hid ((HM.out.grew _).after S1.out G1.out)
        have HA1 : Hid (All (tickF x1 f) offs) := Lib.hid (HA.out.tick x1)
        clear S1 HM
        obtain ⟨m, hm⟩ : ∃ m, (nums (tickF x1 f)).length = m := ⟨_, rfl⟩
        have hm16 : decide ((16 : Int) < (m : Int)) = false := decide_eq_false (by have := HA1.out.few; omega)
        have HMM := Lib.hid hm
        have HM16 : Hid (m ≤ 16) := Lib.hid (by have := HA1.out.few; omega)
        clear hm
        go_wp2_with fail
        refine (near_to HM1.out.st _ rfl m HMM.out).mono ?_
        rintro e w5 ⟨A5, c5, rfl, HO, _, HB5⟩
        have HM5 := Lib.hid (HM1.out.below HB5.out)
        have HRow := Lib.hid (row_ints HO.out).2
        clear HO HB5 HM1
        go_wp2_with fail
        go_loopw [63] (fun v63 wr' => ∃ j : Nat, j ≤ m ∧ v63 = .int .i64 j ∧ wr' = w5) (fun v63 _ => m - (intOf v63).toNat)
        case atStart => exact ⟨0, by omega, rfl, rfl⟩
        case round =>
          obtain ⟨j, hj, rfl, rfl⟩ := hrel
          by_cases hlt2 : j < m
          · obtain ⟨q, e, hx⟩ := HRow.out j (by have := HMM.out; omega)
            cases e
            obtain ⟨x, hx1, hx2, hx3⟩ := nums_at (tickF x1 f) j (by have := HMM.out; omega)
            rw [hx1] at hx
            have hg5 := HM5.out.cell (HA1.out.heard x hx2 hx3)
            have hj1 : (j : Int) < (m : Int) := by omega
            have hj2 : -9223372036854775808 ≤ (j : Int) + 1 := by omega
            have hj3 : (j : Int) + 1 ≤ 9223372036854775807 := by have := HM16.out; omega
            have hx0 : decide ((x : Int) < 0) = false := decide_eq_false (by omega)
            have hx4 : decide (47 < (x : Int)) = false := decide_eq_false (by omega)
            have hx5 : (0 : Int) ≤ x := by omega
            have hx6 : (x : Int) < 48 := by omega
            clear hx2 hx3
            by_cases hj0 : j = 0
            · subst hj0
              clear hx1
              go_wp2_with fail
              go_roundw
              case rel => exact ⟨1, by omega, by simp, trivial⟩
              case measure => simp [intOf]; omega
            · have hi2 : j - 1 < (nums (tickF x1 f)).length := by have := HMM.out; omega
              obtain ⟨q2, e, hy⟩ := HRow.out (j - 1) hi2
              cases e
              have hri := nums_rise2 (tickF x1 f) j (by have := HMM.out; omega) hj0 hi2
              rw [hx1] at hri
              obtain ⟨y, hye⟩ : ∃ y, (nums (tickF x1 f))[j - 1]'hi2 = y := ⟨_, rfl⟩
              rw [hye] at hy hri
              have hri2 : decide ((x : Int) ≤ y) = false := decide_eq_false (by omega)
              clear hx1 hri hye hi2
              have hp00 : 0 < j := by omega
              have hp0 : decide (0 < (j : Int)) = true := decide_eq_true (by omega)
              have hp1 : -9223372036854775808 ≤ (j : Int) - 1 := by omega
              have hp2 : (j : Int) - 1 ≤ 9223372036854775807 := by omega
              have hp3 : 0 ≤ (j : Int) - 1 := by omega
              have hp4 : (j : Int) - 1 < (m : Int) := by omega
              clear hj0
              go_wp2_with fail
              go_roundw
              case rel => exact ⟨j + 1, by omega, by simp, trivial⟩
              case measure => simp [intOf]; omega
          · obtain rfl : j = m := by omega
            go_wp2_with fail
            go_roundw
            case rel => exact ⟨k + 1, _, _, by omega, by simp, HM5, HA1⟩
            case measure => simp [intOf]; omega
      by_cases k2 : x0 = 2
      · subst k2
        go_wp2_with ((with_reducible refine gate_dst (N := 21) rfl ?_); refine load_cells rfl rfl (ad := ad.add (k * 2)) (cs := [.int .i64 2, .int .i64 x1]) ?hx Try.underlying55 rfl (by kernel_rfl) HC.out ?_; (case hx => go_simp; done))
        refine (drop_to (HM.out.grew _).st x1 HW.out _ rfl).mono ?_
        rintro e w2 ⟨rfl, S1, G1⟩
        have HM1 := Lib.hid ((HM.out.grew _).after S1.out G1.out)
        have HA1 : Hid (All (dropF f x1) offs) := Lib.hid (HA.out.drop x1)
        clear S1 HM
        obtain ⟨m, hm⟩ : ∃ m, (nums (dropF f x1)).length = m := ⟨_, rfl⟩
        have hm16 : decide ((16 : Int) < (m : Int)) = false := decide_eq_false (by have := HA1.out.few; omega)
        have HMM := Lib.hid hm
        have HM16 : Hid (m ≤ 16) := Lib.hid (by have := HA1.out.few; omega)
        clear hm
        go_wp2_with fail
        refine (near_to HM1.out.st _ rfl m HMM.out).mono ?_
        rintro e w5 ⟨A5, c5, rfl, HO, _, HB5⟩
        have HM5 := Lib.hid (HM1.out.below HB5.out)
        have HRow := Lib.hid (row_ints HO.out).2
        clear HO HB5 HM1
        go_wp2_with fail
        go_loopw [63] (fun v63 wr' => ∃ j : Nat, j ≤ m ∧ v63 = .int .i64 j ∧ wr' = w5) (fun v63 _ => m - (intOf v63).toNat)
        case atStart => exact ⟨0, by omega, rfl, rfl⟩
        case round =>
          obtain ⟨j, hj, rfl, rfl⟩ := hrel
          by_cases hlt2 : j < m
          · obtain ⟨q, e, hx⟩ := HRow.out j (by have := HMM.out; omega)
            cases e
            obtain ⟨x, hx1, hx2, hx3⟩ := nums_at (dropF f x1) j (by have := HMM.out; omega)
            rw [hx1] at hx
            have hg5 := HM5.out.cell (HA1.out.heard x hx2 hx3)
            have hj1 : (j : Int) < (m : Int) := by omega
            have hj2 : -9223372036854775808 ≤ (j : Int) + 1 := by omega
            have hj3 : (j : Int) + 1 ≤ 9223372036854775807 := by have := HM16.out; omega
            have hx0 : decide ((x : Int) < 0) = false := decide_eq_false (by omega)
            have hx4 : decide (47 < (x : Int)) = false := decide_eq_false (by omega)
            have hx5 : (0 : Int) ≤ x := by omega
            have hx6 : (x : Int) < 48 := by omega
            clear hx2 hx3
            by_cases hj0 : j = 0
            · subst hj0
              clear hx1
              go_wp2_with fail
              go_roundw
              case rel => exact ⟨1, by omega, by simp, trivial⟩
              case measure => simp [intOf]; omega
            · have hi2 : j - 1 < (nums (dropF f x1)).length := by have := HMM.out; omega
              obtain ⟨q2, e, hy⟩ := HRow.out (j - 1) hi2
              cases e
              have hri := nums_rise2 (dropF f x1) j (by have := HMM.out; omega) hj0 hi2
              rw [hx1] at hri
              obtain ⟨y, hye⟩ : ∃ y, (nums (dropF f x1))[j - 1]'hi2 = y := ⟨_, rfl⟩
              rw [hye] at hy hri
              have hri2 : decide ((x : Int) ≤ y) = false := decide_eq_false (by omega)
              clear hx1 hri hye hi2
              have hp00 : 0 < j := by omega
              have hp0 : decide (0 < (j : Int)) = true := decide_eq_true (by omega)
              have hp1 : -9223372036854775808 ≤ (j : Int) - 1 := by omega
              have hp2 : (j : Int) - 1 ≤ 9223372036854775807 := by omega
              have hp3 : 0 ≤ (j : Int) - 1 := by omega
              have hp4 : (j : Int) - 1 < (m : Int) := by omega
              clear hj0
              go_wp2_with fail
              go_roundw
              case rel => exact ⟨j + 1, by omega, by simp, trivial⟩
              case measure => simp [intOf]; omega
          · obtain rfl : j = m := by omega
            go_wp2_with fail
            go_roundw
            case rel => exact ⟨k + 1, _, _, by omega, by simp, HM5, HA1⟩
            case measure => simp [intOf]; omega
      · have d0 : (x0 == 0) = false := beq_eq_false_iff_ne.mpr k0
        have d1 : (x0 == 1) = false := beq_eq_false_iff_ne.mpr k1
        have d2 : (x0 == 2) = false := beq_eq_false_iff_ne.mpr k2
        clear k0 k1 k2
        have HM1 := Lib.hid (HM.out.grew (.cells #[.int .i64 x0, .int .i64 x1] 55 (0, 0)))
        have HA1 := HA
        clear HM
        obtain ⟨m, hm⟩ : ∃ m, (nums f).length = m := ⟨_, rfl⟩
        have HMM := Lib.hid hm
        clear hm
        go_wp2_with ((with_reducible refine gate_dst (N := 21) rfl ?_); refine load_cells rfl rfl (ad := ad.add (k * 2)) (cs := [.int .i64 x0, .int .i64 x1]) ?hx Try.underlying55 rfl (by kernel_rfl) HC.out ?_; (case hx => go_simp; done))
        clear HMM
        obtain ⟨m, hm⟩ : ∃ m, (nums f).length = m := ⟨_, rfl⟩
        have hm16 : decide ((16 : Int) < (m : Int)) = false := decide_eq_false (by have := HA1.out.few; omega)
        have HMM := Lib.hid hm
        have HM16 : Hid (m ≤ 16) := Lib.hid (by have := HA1.out.few; omega)
        clear hm
        go_wp2_with fail
        refine (near_to HM1.out.st _ rfl m HMM.out).mono ?_
        rintro e w5 ⟨A5, c5, rfl, HO, _, HB5⟩
        have HM5 := Lib.hid (HM1.out.below HB5.out)
        have HRow := Lib.hid (row_ints HO.out).2
        clear HO HB5 HM1
        go_wp2_with fail
        go_loopw [63] (fun v63 wr' => ∃ j : Nat, j ≤ m ∧ v63 = .int .i64 j ∧ wr' = w5) (fun v63 _ => m - (intOf v63).toNat)
        case atStart => exact ⟨0, by omega, rfl, rfl⟩
        case round =>
          obtain ⟨j, hj, rfl, rfl⟩ := hrel
          by_cases hlt2 : j < m
          · obtain ⟨q, e, hx⟩ := HRow.out j (by have := HMM.out; omega)
            cases e
            obtain ⟨x, hx1, hx2, hx3⟩ := nums_at f j (by have := HMM.out; omega)
            rw [hx1] at hx
            have hg5 := HM5.out.cell (HA1.out.heard x hx2 hx3)
            have hj1 : (j : Int) < (m : Int) := by omega
            have hj2 : -9223372036854775808 ≤ (j : Int) + 1 := by omega
            have hj3 : (j : Int) + 1 ≤ 9223372036854775807 := by have := HM16.out; omega
            have hx0 : decide ((x : Int) < 0) = false := decide_eq_false (by omega)
            have hx4 : decide (47 < (x : Int)) = false := decide_eq_false (by omega)
            have hx5 : (0 : Int) ≤ x := by omega
            have hx6 : (x : Int) < 48 := by omega
            clear hx2 hx3
            by_cases hj0 : j = 0
            · subst hj0
              clear hx1
              go_wp2_with fail
              go_roundw
              case rel => exact ⟨1, by omega, by simp, trivial⟩
              case measure => simp [intOf]; omega
            · have hi2 : j - 1 < (nums f).length := by have := HMM.out; omega
              obtain ⟨q2, e, hy⟩ := HRow.out (j - 1) hi2
              cases e
              have hri := nums_rise2 f j (by have := HMM.out; omega) hj0 hi2
              rw [hx1] at hri
              obtain ⟨y, hye⟩ : ∃ y, (nums f)[j - 1]'hi2 = y := ⟨_, rfl⟩
              rw [hye] at hy hri
              have hri2 : decide ((x : Int) ≤ y) = false := decide_eq_false (by omega)
              clear hx1 hri hye hi2
              have hp00 : 0 < j := by omega
              have hp0 : decide (0 < (j : Int)) = true := decide_eq_true (by omega)
              have hp1 : -9223372036854775808 ≤ (j : Int) - 1 := by omega
              have hp2 : (j : Int) - 1 ≤ 9223372036854775807 := by omega
              have hp3 : 0 ≤ (j : Int) - 1 := by omega
              have hp4 : (j : Int) - 1 < (m : Int) := by omega
              clear hj0
              go_wp2_with fail
              go_roundw
              case rel => exact ⟨j + 1, by omega, by simp, trivial⟩
              case measure => simp [intOf]; omega
          · obtain rfl : j = m := by omega
            go_wp2_with fail
            go_roundw
            case rel => exact ⟨k + 1, _, _, by omega, by simp, HM5, HA1⟩
            case measure => simp [intOf]; omega
    · obtain rfl : k = l0.length := by omega
      go_wp2_with fail
      go_ret
      exact ⟨rfl, HM.out.st.below⟩
end Go.Proofs.Ytcopnddmkmgihaa.Mb
