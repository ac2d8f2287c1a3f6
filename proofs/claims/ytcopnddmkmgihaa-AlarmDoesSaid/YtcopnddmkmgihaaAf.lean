/- alarm: the place of a timer (slices.IndexFunc with the closure that compares numbers). -/
import Derived.Test.YtcopnddmkmgihaaAd
namespace Go.Proofs.Ytcopnddmkmgihaa.Ak
open Go.RowKit Go.Proofs.YtcopnddmkmgihaaW.PrintWords Go.Proofs.YtcopnddmkmgihaaW.PrintLast Go.Proofs.YtcopnddmkmgihaaW.PrintMore Go.Proofs.YtcopnddmkmgihaaEv
set_option linter.unusedVariables false
set_option linter.unusedSimpArgs false
def isId (id : Int) (x : Int × Int) : Bool := x.1 == id
/-- The place of the first timer of a number; -1: there is none. -/
def idx (l : List (Int × Int)) (id : Int) : Int := if l.findIdx (isId id) < l.length then (l.findIdx (isId id) : Int) else -1
set_option maxRecDepth 100000 in
set_option maxHeartbeats 1000000 in
theorem find1_calls (w : World) (a b id : Int) (bx : Nat) (hbx : w.cell? ⟨bx, 0, none⟩ = some (.int .i64 id)) :
    Calls Try.prog 47 #[.agg #[.int .i64 a, .int .i64 b], .pointer (some ⟨bx, 0, none⟩)] w fun e w' => e = .returned (.bool (a == id)) ∧ Below w.heap.size w w' := by
  have hlt : bx < w.heap.size := World.block_lt_of_cell? w _ hbx
  go_enter Try.func47, Try.ntmps47
  go_wp2
  go_ret
  exact ⟨rfl, (Below.refl _ _).alloc (Nat.le_refl _) _⟩
/-- An element's two cells. -/
theorem elem_cells {E : Nat} {w : World} {g : Nat} {cur : Array Value} {l : List (Int × Int)} (hg : w.heap[g]? = some (.cells cur E (0, 0))) (hcur : ∀ (j : Nat) (u : Value), (fl l)[j]? = some u → cur[j]? = some u) (k : Nat) (hk : k < l.length) :
    ∀ j u, [Value.int .i64 l[k].1, Value.int .i64 l[k].2][j]? = some u → w.cell? ((⟨g, k * 2, none⟩ : Addr).add j) = some u := by
  intro j u hu
  rw [add_off, blk_cell hg]
  refine hcur _ _ ?_
  have h1 : (fl l).drop (k * 2) = fl (l.drop k) := fl_drop k l
  rw [List.drop_eq_getElem_cons hk, fl_cons] at h1
  have h2 : (fl l)[k * 2 + j]? = ((fl l).drop (k * 2))[j]? := by rw [List.getElem?_drop]
  rw [h2, h1]
  match j, hu with
  | 0, hu => exact hu
  | 1, hu => exact hu
set_option maxRecDepth 100000 in
set_option maxHeartbeats 4000000 in
theorem IndexFunc_calls (w : World) (v : Value) (l : List (Int × Int)) (h : Rw 68 w v l) (hl : l.length ≤ 4096) (id : Int) (bx : Nat) (hbx : w.cell? ⟨bx, 0, none⟩ = some (.int .i64 id)) :
    Calls Try.prog 46 #[v, .func (.func 47) #[] #[.pointer (some ⟨bx, 0, none⟩)]] w fun e w' => e = .returned (.int .i64 (idx l id)) ∧ Below w.heap.size w w' := by
  have hbl : bx < w.heap.size := World.block_lt_of_cell? w _ hbx
  obtain ⟨A, c, hv, hrow⟩ : ∃ A c, v = .slice A l.length c ∧ (0 < l.length → ∃ g cur, A = some ⟨g, 0, none⟩ ∧ w.heap[g]? = some (.cells cur 68 (0, 0)) ∧ ∀ (j : Nat) (u : Value), (fl l)[j]? = some u → cur[j]? = some u) := by
    rcases h.2 with ⟨hv, h0⟩ | ⟨g, cap, cur, hv, _⟩
    · exact ⟨none, 0, by rw [hv, h0], fun q => by omega⟩
    · refine ⟨_, _, hv, fun q => ?_⟩
      obtain ⟨g', cap', cur', e, h1, _, _, _, h2⟩ := h.open_ q
      rw [hv] at e
      injection e with e1 _ _
      exact ⟨g', cur', e1, h1, h2⟩
  subst hv
  have hend : (∀ j (hj : j < l.length), l[j].1 ≠ id) → idx l id = -1 := fun q => by
    unfold idx
    rw [if_neg]
    rw [Nat.not_lt]
    refine Nat.le_of_eq ?_
    rw [eq_comm, List.findIdx_eq_length]
    intro x hx
    obtain ⟨j, hj, rfl⟩ := List.mem_iff_getElem.1 hx
    simpa [isId] using q j hj
  have hhit : ∀ k (hk : k < l.length), l[k].1 = id → (∀ j (hj : j < k), l[j].1 ≠ id) → idx l id = k := fun k hk q1 q2 => by
    have : l.findIdx (isId id) = k := (List.findIdx_eq hk).2 ⟨by simpa [isId] using q1, fun j hj => by simpa [isId] using q2 j hj⟩
    unfold idx
    rw [this, if_pos hk]
  have HE := Lib.hid hend
  have HH := Lib.hid hhit
  clear hend hhit h
  go_enter Try.func46, Try.ntmps46
  go_wp2
  go_loopw [8] (fun i wr => ∃ k : Nat, k ≤ l.length ∧ i = .int .i64 k ∧ Hid (∀ j (_ : j < k) (hj : j < l.length), l[j].1 ≠ id) ∧ Below w.heap.size w wr)
    (fun i _ => l.length - (intOf i).toNat)
  case atStart => exact ⟨0, Nat.zero_le _, rfl, Lib.hid (fun j hj _ => absurd hj (by omega)), Below.refl _ _⟩
  case round =>
    obtain ⟨k, hk, rfl, HQ, hB⟩ := hrel
    by_cases hlt : k < l.length
    · obtain ⟨g, cur, rfl, hg, hcur⟩ := hrow (by omega)
      have hcells := elem_cells ((hB.block g (blk_lt hg)).trans hg) hcur k hlt
      have hbx1 := (hB.cell (p := ⟨bx, 0, none⟩) hbl).trans hbx
      have HH1 := Lib.hid (HH.out k hlt)
      obtain ⟨a, ha⟩ : ∃ a, l[k].1 = a := ⟨_, rfl⟩
      obtain ⟨b, hb⟩ : ∃ b, l[k].2 = b := ⟨_, rfl⟩
      rw [ha, hb] at hcells
      rw [ha] at HH1
      have HA := Lib.hid ha
      have HC := Lib.hid hcells
      clear ha hb hcells hcur
      by_cases hid : a = id
      · have hid2 : (a == id) = true := by simpa using hid
        have HI := Lib.hid hid
        clear hid
        go_wp2_with (first
          | ((with_reducible refine gate_dst (N := 15) rfl ?_); refine load_cells rfl rfl (ad := ⟨g, k * 2, none⟩) (cs := [.int .i64 a, .int .i64 b]) ?hx Try.underlying68 rfl (by kernel_rfl) HC.out ?_; (case hx => first | rfl | (go_simp; done) | (go_simp; rfl))))
        refine (find1_calls _ a b id bx hbx1).mono ?_
        rintro e w' ⟨rfl, hb⟩
        go_wp2
        go_ret
        exact ⟨by rw [HH1.out HI.out (fun j hj => HQ.out j hj (by omega))]; first | done | rfl, hB.trans (hb.mono hB.size)⟩
      · have hid2 : (a == id) = false := by simpa using hid
        have HI := Lib.hid hid
        clear hid
        go_wp2_with (first
          | ((with_reducible refine gate_dst (N := 15) rfl ?_); refine load_cells rfl rfl (ad := ⟨g, k * 2, none⟩) (cs := [.int .i64 a, .int .i64 b]) ?hx Try.underlying68 rfl (by kernel_rfl) HC.out ?_; (case hx => first | rfl | (go_simp; done) | (go_simp; rfl))))
        refine (find1_calls _ a b id bx hbx1).mono ?_
        rintro e w' ⟨rfl, hb⟩
        go_wp2
        go_roundw
        case rel => exact ⟨k + 1, by omega, by simp, Lib.hid (fun j hj hjl => by
          by_cases e : j = k
          · subst e; rw [HA.out]; exact HI.out
          · exact HQ.out j (by omega) hjl), hB.trans (hb.mono hB.size)⟩
        case measure => simp [intOf]; omega
    · obtain rfl : k = l.length := by omega
      go_wp2
      go_ret
      exact ⟨by rw [HE.out (fun j hj => HQ.out j hj hj)]; first | done | rfl, hB⟩
end Go.Proofs.Ytcopnddmkmgihaa.Ak
