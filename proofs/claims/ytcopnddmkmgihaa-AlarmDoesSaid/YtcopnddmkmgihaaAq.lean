/- alarm: the reference's table: its first timer, and a timer less. -/
import Derived.Test.YtcopnddmkmgihaaAw
namespace Go.Proofs.Ytcopnddmkmgihaa.Ak
open Go.RowKit Go.Proofs.YtcopnddmkmgihaaW.PrintWords Go.Proofs.YtcopnddmkmgihaaW.PrintLast Go.Proofs.YtcopnddmkmgihaaW.PrintMore Go.Proofs.YtcopnddmkmgihaaEv
set_option linter.unusedVariables false
set_option linter.unusedSimpArgs false
/-- The reference's table: one slice. -/
structure RTab (w : World) (r : Nat) (v : Value) (m : List (Int × Int)) : Prop where
  blk : w.heap[r]? = some (.cells #[v] 40 (0, 0))
  row : Rw 75 w v m
theorem RTab.lt {w : World} {r : Nat} {v : Value} {m : List (Int × Int)} (h : RTab w r v m) : r < w.heap.size := blk_lt h.blk
theorem RTab.cell {w : World} {r : Nat} {v : Value} {m : List (Int × Int)} (h : RTab w r v m) : w.cell? ⟨r, 0, none⟩ = some v := blk_cell h.blk 0
theorem RTab.keep {w w' : World} {r : Nat} {v : Value} {m : List (Int × Int)} {S : Nat → Prop} (h : RTab w r v m) (g : Chg S w w') (hr : ¬ S r) (hv : ∀ k, v.ownBlock = some k → ¬ S k) : RTab w' r v m :=
  ⟨(g.block r h.lt hr).trans h.blk, h.row.keep g hv⟩
theorem RTab.below {w w' : World} {r : Nat} {v : Value} {m : List (Int × Int)} (h : RTab w r v m) (g : Below w.heap.size w w') : RTab w' r v m :=
  h.keep (S := fun _ => False) (Chg.of_below g) (fun q => q) (fun _ _ q => q)
theorem RTab.same {w w' : World} {r : Nat} {v : Value} {m : List (Int × Int)} (h : RTab w r v m) (hW : ∀ k, ¬ (fun _ : Nat => False) k → k < w.heap.size → w'.heap[k]? = w.heap[k]?) : RTab w' r v m := by
  refine ⟨(hW r (fun q => q) h.lt).trans h.blk, h.row.1, ?_⟩
  rcases h.row.2 with hn | ⟨b, cap, cur, e, hb, hbb, rest⟩
  · exact .inl hn
  · exact .inr ⟨b, cap, cur, e, hb, (hW b (fun q => q) (blk_lt hbb)).trans hbb, rest⟩
theorem RTab.elems {w : World} {r g n c : Nat} {m : List (Int × Int)} (h : RTab w r (.slice (some ⟨g, 0, none⟩) n c) m) (b : Nat) (hb : b < m.length) (x1 x2 : Int) (e : m[b] = (x1, x2)) :
    ∀ j u, [Value.int .i64 x1, Value.int .i64 x2][j]? = some u → w.cell? ((⟨g, b * 2, none⟩ : Addr).add j) = some u := by
  obtain ⟨g', cap, cur, hv, hg, _, _, _, hcur⟩ := h.row.open_ (by omega)
  injection hv with hA _ _
  injection hA with hA
  injection hA with hA _ _
  subst hA
  have := elem_cells hg hcur b hb
  rw [e] at this
  exact this
theorem RTab.cell0 {w : World} {r g n c : Nat} {m : List (Int × Int)} (h : RTab w r (.slice (some ⟨g, 0, none⟩) n c) m) (b : Nat) (hb : b < m.length) (x1 x2 : Int) (e : m[b] = (x1, x2)) : w.cell? ⟨g, b * 2, none⟩ = some (.int .i64 x1) := by
  have := h.elems b hb x1 x2 e 0 _ rfl
  rwa [add_off] at this
theorem RTab.cell1 {w : World} {r g n c : Nat} {m : List (Int × Int)} (h : RTab w r (.slice (some ⟨g, 0, none⟩) n c) m) (b : Nat) (hb : b < m.length) (x1 x2 : Int) (e : m[b] = (x1, x2)) : w.cell? ⟨g, b * 2 + 1, none⟩ = some (.int .i64 x2) := by
  have := h.elems b hb x1 x2 e 1 _ rfl
  rwa [add_off] at this
theorem fr_mk {w W : World} {p : World → Prop} (hb : Below w.heap.size w W) (h : Tr (fun _ => False) W p) : Fr (fun _ => False) w W [] p :=
  ⟨fun _ h => h.elim, hb, fun x hx => by simp at hx, List.Pairwise.nil, Tr.less h (fun k _ g => by rcases g with g | ⟨x, hx, _⟩; exact g; simp at hx)⟩
theorem RTab.tr {w : World} {r : Nat} {v : Value} {m : List (Int × Int)} (h : RTab w r v m) : Tr (fun _ => False) w (fun W => RTab W r v m) := fun W' hW => h.same hW
/-- The place of a first timer. -/
def isBest (m : List (Int × Int)) (e : Int) : Prop := m = [] ∧ e = -1 ∨ ∃ (b : Nat) (hb : b < m.length), e = b ∧ ∀ j (hj : j < m.length), less m[j] m[b] = false
def bestTo (m : List (Int × Int)) (k : Nat) (v : Value) : Prop := k = 0 ∧ v = .int .i64 (-1) ∨ ∃ (b : Nat) (hb : b < m.length), b < k ∧ v = .int .i64 b ∧ ∀ j (hj : j < m.length), j < k → less m[j] m[b] = false
theorem less_irrefl (x : Int × Int) : less x x = false := by simp [less]
theorem best_next {m : List (Int × Int)} {k b : Nat} (hk : k < m.length) (hb : b < m.length) (hq : ∀ j (hj : j < m.length), j < k → less m[j] m[b] = false) (h : less m[k] m[b] = false) (hbk : b < k) : bestTo m (k + 1) (.int .i64 b) :=
  .inr ⟨b, hb, by omega, rfl, fun j hj hjk => by
    by_cases e : j = k
    · subst e; exact h
    · exact hq j hj (by omega)⟩
theorem best_take {m : List (Int × Int)} {k b : Nat} (hk : k < m.length) (hb : b < m.length) (hq : ∀ j (hj : j < m.length), j < k → less m[j] m[b] = false) (h : less m[k] m[b] = true) : bestTo m (k + 1) (.int .i64 k) :=
  .inr ⟨k, hk, by omega, rfl, fun j hj hjk => by
    by_cases e : j = k
    · subst e; exact less_irrefl _
    · have h2 := hq j hj (by omega)
      simp only [less, decide_eq_true_eq, decide_eq_false_iff_not] at h h2 ⊢
      omega⟩
theorem best_first {m : List (Int × Int)} (hk : 0 < m.length) : bestTo m (0 + 1) (.int .i64 (0 : Nat)) :=
  .inr ⟨0, hk, by omega, rfl, fun j hj hjk => by
    obtain rfl : j = 0 := by omega
    exact less_irrefl _⟩
set_option maxRecDepth 100000 in
set_option maxHeartbeats 8000000 in
theorem first_calls (w : World) (r : Nat) (v : Value) (m : List (Int × Int)) (h : RTab w r v m) (hl : m.length ≤ 4096) :
    Calls Try.prog 40 #[.pointer (some ⟨r, 0, none⟩)] w fun e w' => ∃ i, e = .returned (.int .i64 i) ∧ isBest m i ∧ Below w.heap.size w w' := by
  obtain ⟨A, c, hv, hrow⟩ := h.row.slice
  subst hv
  have hct := h.cell
  have HT := Lib.hid h
  obtain ⟨n, hn⟩ : ∃ n, m.length = n := ⟨_, rfl⟩
  have HN := Lib.hid hn
  rw [hn] at HT hl hrow hct
  clear h hn
  go_enter Try.func40, Try.ntmps40
  go_wp2
  go_loopw [3, 11] (fun v3 v11 wr => ∃ (k : Nat), k ≤ n ∧ v11 = .int .i64 k ∧ Hid (bestTo m k v3) ∧ Hid (Fr (fun _ => False) w wr [] (fun W => RTab W r (.slice A n c) m))) (fun v3 v11 _ => n - (intOf v11).toNat)
  case atStart => exact ⟨0, by omega, rfl, Lib.hid (.inl ⟨rfl, rfl⟩), Lib.hid (fr_mk (Below.refl _ _) HT.out.tr)⟩
  case round =>
    rename_i v3 v11 wr
    obtain ⟨k, hk, rfl, HB, HF⟩ := hrel
    by_cases hlt : k < n
    · obtain ⟨g, cur, rfl, _, _⟩ := hrow (by omega)
      have hk1 : (k : Int) < (n : Int) := by omega
      have hs1 : -9223372036854775808 ≤ (k : Int) + 1 := by omega
      have hs2 : (k : Int) + 1 ≤ 9223372036854775807 := by omega
      have hkm : k < m.length := by rw [HN.out]; exact hlt
      have HKM := Lib.hid hkm
      obtain ⟨x1, x2, hx⟩ : ∃ x1 x2, m[k] = (x1, x2) := ⟨_, _, rfl⟩
      have H := HF.out
      have HC := Lib.hid (H.now.elems k hkm x1 x2 hx)
      have HX := Lib.hid hx
      clear hx hkm
      rcases HB.out with ⟨hk0, rfl⟩ | ⟨b, hb, hbk, rfl, hq⟩
      · have d1 : decide ((-1 : Int) < 0) = true := rfl
        have HK0 := Lib.hid hk0
        clear hk0 HB
        go_wp2_with (first
          | ((with_reducible refine gate_dst (N := 15) rfl ?_); refine load_cells rfl rfl (ad := ⟨g, k * 2, none⟩) (cs := [.int .i64 x1, .int .i64 x2]) ?hx Try.underlying75 rfl (by kernel_rfl) HC.out ?_; (case hx => first | rfl | (go_simp; done) | (go_simp; rfl)))
          | ((with_reducible refine gate_dst (N := 5) rfl ?_); refine fr_new H (N := 5) rfl rfl (cs := #[.int .i64 0, .int .i64 0]) (t := 75) ?hr ?_; (case hr => first | (go_simp; done) | (go_simp; rfl)); intro g5 w5 H1; clear H; have H := H1; clear H1)
          | ((with_reducible refine gate_store (t := 75) (p := 5) rfl ?_); refine fr_put H rfl rfl rfl rfl rfl (by repeat (first | exact At.head | apply At.tail)) (by rfl) (by kernel_rfl) (by simp [Value.oneCell']) ?_; intro w5_ H1; clear H; have H := H1; clear H1)
          | ((with_reducible refine gate_dst (N := 20) rfl ?_); (try (refine gate_guard (by rfl) ?_; dsimp only)); refine fr_get H rfl rfl rfl (by repeat (first | exact At.head | apply At.tail)) Try.underlying3 rfl (by simp only [List.getElem?_toArray, List.getElem?_cons_succ, List.getElem?_cons_zero]; rfl) ?_)
          | ((with_reducible refine gate_dst (N := 33) rfl ?_); (try (refine gate_guard (by rfl) ?_; dsimp only)); refine fr_get H rfl rfl rfl (by repeat (first | exact At.head | apply At.tail)) Try.underlying3 rfl (by simp only [List.getElem?_toArray, List.getElem?_cons_succ, List.getElem?_cons_zero]; rfl) ?_)
          | ((with_reducible refine gate_dst (N := 45) rfl ?_); (try (refine gate_guard (by rfl) ?_; dsimp only)); refine fr_get H rfl rfl rfl (by repeat (first | exact At.head | apply At.tail)) Try.underlying3 rfl (by simp only [List.getElem?_toArray, List.getElem?_cons_succ, List.getElem?_cons_zero]; rfl) ?_)
          )
        refine fr_region H (by kernel_rfl) (by kernel_rfl) ?_
        clear H
        repeat (first
          | go_big_quiet_skip
          | ((with_reducible refine qg_move rfl ?_); go_big_quiet_want; go_big_quiet_op; go_big_quiet_on)
          | ((with_reducible refine qg_assign rfl ?_); go_big_quiet_want; go_big_quiet_op; go_big_quiet_on)
          | ((with_reducible refine qg_load rfl ?_); refine q_cell (by rfl) rfl (ad := ⟨r, 0, none⟩) (by first | rfl | (go_simp; done) | (go_simp; rfl)) Try.underlying38 rfl (fun W h => h.cell) ?_; simp only [Act.put, List.setIfInBounds_toArray, List.set_cons_zero, List.set_cons_succ])
          | ((with_reducible refine qg_load rfl ?_); refine q_cell (by rfl) rfl (ad := ⟨g, b * 2 + 1, none⟩) (by first | rfl | (go_simp; done) | (go_simp; rfl)) Try.underlying3 rfl (fun W h => HB1.out W h) ?_; simp only [Act.put, List.setIfInBounds_toArray, List.set_cons_zero, List.set_cons_succ])
          | ((with_reducible refine qg_load rfl ?_); refine q_cell (by rfl) rfl (ad := ⟨g, b * 2, none⟩) (by first | rfl | (go_simp; done) | (go_simp; rfl)) Try.underlying3 rfl (fun W h => HB0.out W h) ?_; simp only [Act.put, List.setIfInBounds_toArray, List.set_cons_zero, List.set_cons_succ])
          | ((with_reducible refine qg_load rfl ?_); first | (refine q_load (by rfl) rfl rfl (by (repeat (first | exact At.head | apply At.tail)); done) (by first | exact Try.underlying38 | exact Try.underlying75 | exact Try.underlying3) (by rfl) (by kernel_rfl) ?_; simp only [Act.put, List.setIfInBounds_toArray, List.set_cons_zero, List.set_cons_succ]) | (refine q_get (by rfl) rfl rfl (by (repeat (first | exact At.head | apply At.tail)); done) (by first | exact Try.underlying38 | exact Try.underlying75 | exact Try.underlying3) (by rfl) (by simp only [List.getElem?_toArray, List.getElem?_cons_succ, List.getElem?_cons_zero]; rfl) ?_; simp only [Act.put, List.setIfInBounds_toArray, List.set_cons_zero, List.set_cons_succ]) | (refine q_sub2 (by rfl) rfl rfl (by (repeat (first | exact At.head | apply At.tail)); done) (by first | exact Try.underlying38 | exact Try.underlying75 | exact Try.underlying3) (by rfl) (by kernel_rfl) (by simp only [List.getElem?_toArray, List.getElem?_cons_succ, List.getElem?_cons_zero]; rfl) (by simp only [List.getElem?_toArray, List.getElem?_cons_succ, List.getElem?_cons_zero]; rfl) ?_; simp only [Act.put, List.setIfInBounds_toArray, List.set_cons_zero, List.set_cons_succ]))
          | (refine q_pureK (by rfl) (fun W K hK => by go_simp; exact hK.out) ?_; simp only [Act.put, List.setIfInBounds_toArray, List.set_cons_zero, List.set_cons_succ]))
        refine q_end ?_
        intro W1 H
        go_wp2
        go_roundw
        case rel => exact ⟨k + 1, by omega, by simp, Lib.hid (by have e := HK0.out; subst e; exact best_first HKM.out), Lib.hid H.drop⟩
        case measure => simp [intOf]; omega
      · obtain ⟨y1, y2, hy⟩ : ∃ y1 y2, m[b] = (y1, y2) := ⟨_, _, rfl⟩
        have HB0 : Hid (∀ W, RTab W r (.slice (some ⟨g, 0, none⟩) n c) m → W.cell? ⟨g, b * 2, none⟩ = some (.int .i64 y1)) := Lib.hid (fun W h => h.cell0 b hb y1 y2 hy)
        have HB1 : Hid (∀ W, RTab W r (.slice (some ⟨g, 0, none⟩) n c) m → W.cell? ⟨g, b * 2 + 1, none⟩ = some (.int .i64 y2)) := Lib.hid (fun W h => h.cell1 b hb y1 y2 hy)
        have HLS : Hid (less m[k] m[b] = less (x1, x2) (y1, y2)) := Lib.hid (by rw [HX.out, hy])
        have HQ := Lib.hid hq
        have HBM := Lib.hid hb
        have hbn : (b : Int) < (n : Int) := by rw [← HN.out]; omega
        have hb0 : decide ((b : Int) < 0) = false := by simp
        have HBK := Lib.hid hbk
        clear hy hq hbk HB
        by_cases h1 : x2 < y2
        · have d1 : decide (x2 < y2) = true := decide_eq_true h1
          have HL : Hid (less (x1, x2) (y1, y2) = true) := Lib.hid (by simp only [less, decide_eq_true_eq]; omega)
          clear h1
          go_wp2_with (first
            | ((with_reducible refine gate_dst (N := 15) rfl ?_); refine load_cells rfl rfl (ad := ⟨g, k * 2, none⟩) (cs := [.int .i64 x1, .int .i64 x2]) ?hx Try.underlying75 rfl (by kernel_rfl) HC.out ?_; (case hx => first | rfl | (go_simp; done) | (go_simp; rfl)))
            | ((with_reducible refine gate_dst (N := 5) rfl ?_); refine fr_new H (N := 5) rfl rfl (cs := #[.int .i64 0, .int .i64 0]) (t := 75) ?hr ?_; (case hr => first | (go_simp; done) | (go_simp; rfl)); intro g5 w5 H1; clear H; have H := H1; clear H1)
            | ((with_reducible refine gate_store (t := 75) (p := 5) rfl ?_); refine fr_put H rfl rfl rfl rfl rfl (by repeat (first | exact At.head | apply At.tail)) (by rfl) (by kernel_rfl) (by simp [Value.oneCell']) ?_; intro w5_ H1; clear H; have H := H1; clear H1)
            | ((with_reducible refine gate_dst (N := 20) rfl ?_); (try (refine gate_guard (by rfl) ?_; dsimp only)); refine fr_get H rfl rfl rfl (by repeat (first | exact At.head | apply At.tail)) Try.underlying3 rfl (by simp only [List.getElem?_toArray, List.getElem?_cons_succ, List.getElem?_cons_zero]; rfl) ?_)
            | ((with_reducible refine gate_dst (N := 33) rfl ?_); (try (refine gate_guard (by rfl) ?_; dsimp only)); refine fr_get H rfl rfl rfl (by repeat (first | exact At.head | apply At.tail)) Try.underlying3 rfl (by simp only [List.getElem?_toArray, List.getElem?_cons_succ, List.getElem?_cons_zero]; rfl) ?_)
            | ((with_reducible refine gate_dst (N := 45) rfl ?_); (try (refine gate_guard (by rfl) ?_; dsimp only)); refine fr_get H rfl rfl rfl (by repeat (first | exact At.head | apply At.tail)) Try.underlying3 rfl (by simp only [List.getElem?_toArray, List.getElem?_cons_succ, List.getElem?_cons_zero]; rfl) ?_)
            )
          refine fr_region H (by kernel_rfl) (by kernel_rfl) ?_
          clear H
          repeat (first
            | go_big_quiet_skip
            | ((with_reducible refine qg_move rfl ?_); go_big_quiet_want; go_big_quiet_op; go_big_quiet_on)
            | ((with_reducible refine qg_assign rfl ?_); go_big_quiet_want; go_big_quiet_op; go_big_quiet_on)
            | ((with_reducible refine qg_load rfl ?_); refine q_cell (by rfl) rfl (ad := ⟨r, 0, none⟩) (by first | rfl | (go_simp; done) | (go_simp; rfl)) Try.underlying38 rfl (fun W h => h.cell) ?_; simp only [Act.put, List.setIfInBounds_toArray, List.set_cons_zero, List.set_cons_succ])
            | ((with_reducible refine qg_load rfl ?_); refine q_cell (by rfl) rfl (ad := ⟨g, b * 2 + 1, none⟩) (by first | rfl | (go_simp; done) | (go_simp; rfl)) Try.underlying3 rfl (fun W h => HB1.out W h) ?_; simp only [Act.put, List.setIfInBounds_toArray, List.set_cons_zero, List.set_cons_succ])
            | ((with_reducible refine qg_load rfl ?_); refine q_cell (by rfl) rfl (ad := ⟨g, b * 2, none⟩) (by first | rfl | (go_simp; done) | (go_simp; rfl)) Try.underlying3 rfl (fun W h => HB0.out W h) ?_; simp only [Act.put, List.setIfInBounds_toArray, List.set_cons_zero, List.set_cons_succ])
            | ((with_reducible refine qg_load rfl ?_); first | (refine q_load (by rfl) rfl rfl (by (repeat (first | exact At.head | apply At.tail)); done) (by first | exact Try.underlying38 | exact Try.underlying75 | exact Try.underlying3) (by rfl) (by kernel_rfl) ?_; simp only [Act.put, List.setIfInBounds_toArray, List.set_cons_zero, List.set_cons_succ]) | (refine q_get (by rfl) rfl rfl (by (repeat (first | exact At.head | apply At.tail)); done) (by first | exact Try.underlying38 | exact Try.underlying75 | exact Try.underlying3) (by rfl) (by simp only [List.getElem?_toArray, List.getElem?_cons_succ, List.getElem?_cons_zero]; rfl) ?_; simp only [Act.put, List.setIfInBounds_toArray, List.set_cons_zero, List.set_cons_succ]) | (refine q_sub2 (by rfl) rfl rfl (by (repeat (first | exact At.head | apply At.tail)); done) (by first | exact Try.underlying38 | exact Try.underlying75 | exact Try.underlying3) (by rfl) (by kernel_rfl) (by simp only [List.getElem?_toArray, List.getElem?_cons_succ, List.getElem?_cons_zero]; rfl) (by simp only [List.getElem?_toArray, List.getElem?_cons_succ, List.getElem?_cons_zero]; rfl) ?_; simp only [Act.put, List.setIfInBounds_toArray, List.set_cons_zero, List.set_cons_succ]))
            | (refine q_pureK (by rfl) (fun W K hK => by go_simp; exact hK.out) ?_; simp only [Act.put, List.setIfInBounds_toArray, List.set_cons_zero, List.set_cons_succ]))
          refine q_end ?_
          intro W1 H
          go_wp2
          go_roundw
          case rel => exact ⟨k + 1, by omega, by simp, Lib.hid (best_take HKM.out HBM.out HQ.out (HLS.out.trans HL.out)), Lib.hid H.drop⟩
          case measure => simp [intOf]; omega
        · have d1 : decide (x2 < y2) = false := decide_eq_false h1
          by_cases h2 : x2 = y2
          · have d2 : (x2 == y2) = true := beq_iff_eq.mpr h2
            by_cases h3 : x1 < y1
            · have d3 : decide (x1 < y1) = true := decide_eq_true h3
              have HL : Hid (less (x1, x2) (y1, y2) = true) := Lib.hid (by simp only [less, decide_eq_true_eq]; omega)
              clear h1 h2 h3
              go_wp2_with (first
                | ((with_reducible refine gate_dst (N := 15) rfl ?_); refine load_cells rfl rfl (ad := ⟨g, k * 2, none⟩) (cs := [.int .i64 x1, .int .i64 x2]) ?hx Try.underlying75 rfl (by kernel_rfl) HC.out ?_; (case hx => first | rfl | (go_simp; done) | (go_simp; rfl)))
                | ((with_reducible refine gate_dst (N := 5) rfl ?_); refine fr_new H (N := 5) rfl rfl (cs := #[.int .i64 0, .int .i64 0]) (t := 75) ?hr ?_; (case hr => first | (go_simp; done) | (go_simp; rfl)); intro g5 w5 H1; clear H; have H := H1; clear H1)
                | ((with_reducible refine gate_store (t := 75) (p := 5) rfl ?_); refine fr_put H rfl rfl rfl rfl rfl (by repeat (first | exact At.head | apply At.tail)) (by rfl) (by kernel_rfl) (by simp [Value.oneCell']) ?_; intro w5_ H1; clear H; have H := H1; clear H1)
                | ((with_reducible refine gate_dst (N := 20) rfl ?_); (try (refine gate_guard (by rfl) ?_; dsimp only)); refine fr_get H rfl rfl rfl (by repeat (first | exact At.head | apply At.tail)) Try.underlying3 rfl (by simp only [List.getElem?_toArray, List.getElem?_cons_succ, List.getElem?_cons_zero]; rfl) ?_)
                | ((with_reducible refine gate_dst (N := 33) rfl ?_); (try (refine gate_guard (by rfl) ?_; dsimp only)); refine fr_get H rfl rfl rfl (by repeat (first | exact At.head | apply At.tail)) Try.underlying3 rfl (by simp only [List.getElem?_toArray, List.getElem?_cons_succ, List.getElem?_cons_zero]; rfl) ?_)
                | ((with_reducible refine gate_dst (N := 45) rfl ?_); (try (refine gate_guard (by rfl) ?_; dsimp only)); refine fr_get H rfl rfl rfl (by repeat (first | exact At.head | apply At.tail)) Try.underlying3 rfl (by simp only [List.getElem?_toArray, List.getElem?_cons_succ, List.getElem?_cons_zero]; rfl) ?_)
                )
              refine fr_region H (by kernel_rfl) (by kernel_rfl) ?_
              clear H
              repeat (first
                | go_big_quiet_skip
                | ((with_reducible refine qg_move rfl ?_); go_big_quiet_want; go_big_quiet_op; go_big_quiet_on)
                | ((with_reducible refine qg_assign rfl ?_); go_big_quiet_want; go_big_quiet_op; go_big_quiet_on)
                | ((with_reducible refine qg_load rfl ?_); refine q_cell (by rfl) rfl (ad := ⟨r, 0, none⟩) (by first | rfl | (go_simp; done) | (go_simp; rfl)) Try.underlying38 rfl (fun W h => h.cell) ?_; simp only [Act.put, List.setIfInBounds_toArray, List.set_cons_zero, List.set_cons_succ])
                | ((with_reducible refine qg_load rfl ?_); refine q_cell (by rfl) rfl (ad := ⟨g, b * 2 + 1, none⟩) (by first | rfl | (go_simp; done) | (go_simp; rfl)) Try.underlying3 rfl (fun W h => HB1.out W h) ?_; simp only [Act.put, List.setIfInBounds_toArray, List.set_cons_zero, List.set_cons_succ])
                | ((with_reducible refine qg_load rfl ?_); refine q_cell (by rfl) rfl (ad := ⟨g, b * 2, none⟩) (by first | rfl | (go_simp; done) | (go_simp; rfl)) Try.underlying3 rfl (fun W h => HB0.out W h) ?_; simp only [Act.put, List.setIfInBounds_toArray, List.set_cons_zero, List.set_cons_succ])
                | ((with_reducible refine qg_load rfl ?_); first | (refine q_load (by rfl) rfl rfl (by (repeat (first | exact At.head | apply At.tail)); done) (by first | exact Try.underlying38 | exact Try.underlying75 | exact Try.underlying3) (by rfl) (by kernel_rfl) ?_; simp only [Act.put, List.setIfInBounds_toArray, List.set_cons_zero, List.set_cons_succ]) | (refine q_get (by rfl) rfl rfl (by (repeat (first | exact At.head | apply At.tail)); done) (by first | exact Try.underlying38 | exact Try.underlying75 | exact Try.underlying3) (by rfl) (by simp only [List.getElem?_toArray, List.getElem?_cons_succ, List.getElem?_cons_zero]; rfl) ?_; simp only [Act.put, List.setIfInBounds_toArray, List.set_cons_zero, List.set_cons_succ]) | (refine q_sub2 (by rfl) rfl rfl (by (repeat (first | exact At.head | apply At.tail)); done) (by first | exact Try.underlying38 | exact Try.underlying75 | exact Try.underlying3) (by rfl) (by kernel_rfl) (by simp only [List.getElem?_toArray, List.getElem?_cons_succ, List.getElem?_cons_zero]; rfl) (by simp only [List.getElem?_toArray, List.getElem?_cons_succ, List.getElem?_cons_zero]; rfl) ?_; simp only [Act.put, List.setIfInBounds_toArray, List.set_cons_zero, List.set_cons_succ]))
                | (refine q_pureK (by rfl) (fun W K hK => by go_simp; exact hK.out) ?_; simp only [Act.put, List.setIfInBounds_toArray, List.set_cons_zero, List.set_cons_succ]))
              refine q_end ?_
              intro W1 H
              go_wp2
              go_roundw
              case rel => exact ⟨k + 1, by omega, by simp, Lib.hid (best_take HKM.out HBM.out HQ.out (HLS.out.trans HL.out)), Lib.hid H.drop⟩
              case measure => simp [intOf]; omega
            · have d3 : decide (x1 < y1) = false := decide_eq_false h3
              have HL : Hid (less (x1, x2) (y1, y2) = false) := Lib.hid (by simp only [less, decide_eq_false_iff_not]; omega)
              clear h1 h2 h3
              go_wp2_with (first
                | ((with_reducible refine gate_dst (N := 15) rfl ?_); refine load_cells rfl rfl (ad := ⟨g, k * 2, none⟩) (cs := [.int .i64 x1, .int .i64 x2]) ?hx Try.underlying75 rfl (by kernel_rfl) HC.out ?_; (case hx => first | rfl | (go_simp; done) | (go_simp; rfl)))
                | ((with_reducible refine gate_dst (N := 5) rfl ?_); refine fr_new H (N := 5) rfl rfl (cs := #[.int .i64 0, .int .i64 0]) (t := 75) ?hr ?_; (case hr => first | (go_simp; done) | (go_simp; rfl)); intro g5 w5 H1; clear H; have H := H1; clear H1)
                | ((with_reducible refine gate_store (t := 75) (p := 5) rfl ?_); refine fr_put H rfl rfl rfl rfl rfl (by repeat (first | exact At.head | apply At.tail)) (by rfl) (by kernel_rfl) (by simp [Value.oneCell']) ?_; intro w5_ H1; clear H; have H := H1; clear H1)
                | ((with_reducible refine gate_dst (N := 20) rfl ?_); (try (refine gate_guard (by rfl) ?_; dsimp only)); refine fr_get H rfl rfl rfl (by repeat (first | exact At.head | apply At.tail)) Try.underlying3 rfl (by simp only [List.getElem?_toArray, List.getElem?_cons_succ, List.getElem?_cons_zero]; rfl) ?_)
                | ((with_reducible refine gate_dst (N := 33) rfl ?_); (try (refine gate_guard (by rfl) ?_; dsimp only)); refine fr_get H rfl rfl rfl (by repeat (first | exact At.head | apply At.tail)) Try.underlying3 rfl (by simp only [List.getElem?_toArray, List.getElem?_cons_succ, List.getElem?_cons_zero]; rfl) ?_)
                | ((with_reducible refine gate_dst (N := 45) rfl ?_); (try (refine gate_guard (by rfl) ?_; dsimp only)); refine fr_get H rfl rfl rfl (by repeat (first | exact At.head | apply At.tail)) Try.underlying3 rfl (by simp only [List.getElem?_toArray, List.getElem?_cons_succ, List.getElem?_cons_zero]; rfl) ?_)
                )
              refine fr_region H (by kernel_rfl) (by kernel_rfl) ?_
              clear H
              repeat (first
                | go_big_quiet_skip
                | ((with_reducible refine qg_move rfl ?_); go_big_quiet_want; go_big_quiet_op; go_big_quiet_on)
                | ((with_reducible refine qg_assign rfl ?_); go_big_quiet_want; go_big_quiet_op; go_big_quiet_on)
                | ((with_reducible refine qg_load rfl ?_); refine q_cell (by rfl) rfl (ad := ⟨r, 0, none⟩) (by first | rfl | (go_simp; done) | (go_simp; rfl)) Try.underlying38 rfl (fun W h => h.cell) ?_; simp only [Act.put, List.setIfInBounds_toArray, List.set_cons_zero, List.set_cons_succ])
                | ((with_reducible refine qg_load rfl ?_); refine q_cell (by rfl) rfl (ad := ⟨g, b * 2 + 1, none⟩) (by first | rfl | (go_simp; done) | (go_simp; rfl)) Try.underlying3 rfl (fun W h => HB1.out W h) ?_; simp only [Act.put, List.setIfInBounds_toArray, List.set_cons_zero, List.set_cons_succ])
                | ((with_reducible refine qg_load rfl ?_); refine q_cell (by rfl) rfl (ad := ⟨g, b * 2, none⟩) (by first | rfl | (go_simp; done) | (go_simp; rfl)) Try.underlying3 rfl (fun W h => HB0.out W h) ?_; simp only [Act.put, List.setIfInBounds_toArray, List.set_cons_zero, List.set_cons_succ])
                | ((with_reducible refine qg_load rfl ?_); first | (refine q_load (by rfl) rfl rfl (by (repeat (first | exact At.head | apply At.tail)); done) (by first | exact Try.underlying38 | exact Try.underlying75 | exact Try.underlying3) (by rfl) (by kernel_rfl) ?_; simp only [Act.put, List.setIfInBounds_toArray, List.set_cons_zero, List.set_cons_succ]) | (refine q_get (by rfl) rfl rfl (by (repeat (first | exact At.head | apply At.tail)); done) (by first | exact Try.underlying38 | exact Try.underlying75 | exact Try.underlying3) (by rfl) (by simp only [List.getElem?_toArray, List.getElem?_cons_succ, List.getElem?_cons_zero]; rfl) ?_; simp only [Act.put, List.setIfInBounds_toArray, List.set_cons_zero, List.set_cons_succ]) | (refine q_sub2 (by rfl) rfl rfl (by (repeat (first | exact At.head | apply At.tail)); done) (by first | exact Try.underlying38 | exact Try.underlying75 | exact Try.underlying3) (by rfl) (by kernel_rfl) (by simp only [List.getElem?_toArray, List.getElem?_cons_succ, List.getElem?_cons_zero]; rfl) (by simp only [List.getElem?_toArray, List.getElem?_cons_succ, List.getElem?_cons_zero]; rfl) ?_; simp only [Act.put, List.setIfInBounds_toArray, List.set_cons_zero, List.set_cons_succ]))
                | (refine q_pureK (by rfl) (fun W K hK => by go_simp; exact hK.out) ?_; simp only [Act.put, List.setIfInBounds_toArray, List.set_cons_zero, List.set_cons_succ]))
              refine q_end ?_
              intro W1 H
              go_wp2
              go_roundw
              case rel => exact ⟨k + 1, by omega, by simp, Lib.hid (best_next HKM.out HBM.out HQ.out (HLS.out.trans HL.out) HBK.out), Lib.hid H.drop⟩
              case measure => simp [intOf]; omega
          · have d2 : (x2 == y2) = false := beq_eq_false_iff_ne.mpr h2
            have HL : Hid (less (x1, x2) (y1, y2) = false) := Lib.hid (by simp only [less, decide_eq_false_iff_not]; omega)
            clear h1 h2
            go_wp2_with (first
              | ((with_reducible refine gate_dst (N := 15) rfl ?_); refine load_cells rfl rfl (ad := ⟨g, k * 2, none⟩) (cs := [.int .i64 x1, .int .i64 x2]) ?hx Try.underlying75 rfl (by kernel_rfl) HC.out ?_; (case hx => first | rfl | (go_simp; done) | (go_simp; rfl)))
              | ((with_reducible refine gate_dst (N := 5) rfl ?_); refine fr_new H (N := 5) rfl rfl (cs := #[.int .i64 0, .int .i64 0]) (t := 75) ?hr ?_; (case hr => first | (go_simp; done) | (go_simp; rfl)); intro g5 w5 H1; clear H; have H := H1; clear H1)
              | ((with_reducible refine gate_store (t := 75) (p := 5) rfl ?_); refine fr_put H rfl rfl rfl rfl rfl (by repeat (first | exact At.head | apply At.tail)) (by rfl) (by kernel_rfl) (by simp [Value.oneCell']) ?_; intro w5_ H1; clear H; have H := H1; clear H1)
              | ((with_reducible refine gate_dst (N := 20) rfl ?_); (try (refine gate_guard (by rfl) ?_; dsimp only)); refine fr_get H rfl rfl rfl (by repeat (first | exact At.head | apply At.tail)) Try.underlying3 rfl (by simp only [List.getElem?_toArray, List.getElem?_cons_succ, List.getElem?_cons_zero]; rfl) ?_)
              | ((with_reducible refine gate_dst (N := 33) rfl ?_); (try (refine gate_guard (by rfl) ?_; dsimp only)); refine fr_get H rfl rfl rfl (by repeat (first | exact At.head | apply At.tail)) Try.underlying3 rfl (by simp only [List.getElem?_toArray, List.getElem?_cons_succ, List.getElem?_cons_zero]; rfl) ?_)
              | ((with_reducible refine gate_dst (N := 45) rfl ?_); (try (refine gate_guard (by rfl) ?_; dsimp only)); refine fr_get H rfl rfl rfl (by repeat (first | exact At.head | apply At.tail)) Try.underlying3 rfl (by simp only [List.getElem?_toArray, List.getElem?_cons_succ, List.getElem?_cons_zero]; rfl) ?_)
              )
            refine fr_region H (by kernel_rfl) (by kernel_rfl) ?_
            clear H
            repeat (first
              | go_big_quiet_skip
              | ((with_reducible refine qg_move rfl ?_); go_big_quiet_want; go_big_quiet_op; go_big_quiet_on)
              | ((with_reducible refine qg_assign rfl ?_); go_big_quiet_want; go_big_quiet_op; go_big_quiet_on)
              | ((with_reducible refine qg_load rfl ?_); refine q_cell (by rfl) rfl (ad := ⟨r, 0, none⟩) (by first | rfl | (go_simp; done) | (go_simp; rfl)) Try.underlying38 rfl (fun W h => h.cell) ?_; simp only [Act.put, List.setIfInBounds_toArray, List.set_cons_zero, List.set_cons_succ])
              | ((with_reducible refine qg_load rfl ?_); refine q_cell (by rfl) rfl (ad := ⟨g, b * 2 + 1, none⟩) (by first | rfl | (go_simp; done) | (go_simp; rfl)) Try.underlying3 rfl (fun W h => HB1.out W h) ?_; simp only [Act.put, List.setIfInBounds_toArray, List.set_cons_zero, List.set_cons_succ])
              | ((with_reducible refine qg_load rfl ?_); refine q_cell (by rfl) rfl (ad := ⟨g, b * 2, none⟩) (by first | rfl | (go_simp; done) | (go_simp; rfl)) Try.underlying3 rfl (fun W h => HB0.out W h) ?_; simp only [Act.put, List.setIfInBounds_toArray, List.set_cons_zero, List.set_cons_succ])
              | ((with_reducible refine qg_load rfl ?_); first | (refine q_load (by rfl) rfl rfl (by (repeat (first | exact At.head | apply At.tail)); done) (by first | exact Try.underlying38 | exact Try.underlying75 | exact Try.underlying3) (by rfl) (by kernel_rfl) ?_; simp only [Act.put, List.setIfInBounds_toArray, List.set_cons_zero, List.set_cons_succ]) | (refine q_get (by rfl) rfl rfl (by (repeat (first | exact At.head | apply At.tail)); done) (by first | exact Try.underlying38 | exact Try.underlying75 | exact Try.underlying3) (by rfl) (by simp only [List.getElem?_toArray, List.getElem?_cons_succ, List.getElem?_cons_zero]; rfl) ?_; simp only [Act.put, List.setIfInBounds_toArray, List.set_cons_zero, List.set_cons_succ]) | (refine q_sub2 (by rfl) rfl rfl (by (repeat (first | exact At.head | apply At.tail)); done) (by first | exact Try.underlying38 | exact Try.underlying75 | exact Try.underlying3) (by rfl) (by kernel_rfl) (by simp only [List.getElem?_toArray, List.getElem?_cons_succ, List.getElem?_cons_zero]; rfl) (by simp only [List.getElem?_toArray, List.getElem?_cons_succ, List.getElem?_cons_zero]; rfl) ?_; simp only [Act.put, List.setIfInBounds_toArray, List.set_cons_zero, List.set_cons_succ]))
              | (refine q_pureK (by rfl) (fun W K hK => by go_simp; exact hK.out) ?_; simp only [Act.put, List.setIfInBounds_toArray, List.set_cons_zero, List.set_cons_succ]))
            refine q_end ?_
            intro W1 H
            go_wp2
            go_roundw
            case rel => exact ⟨k + 1, by omega, by simp, Lib.hid (best_next HKM.out HBM.out HQ.out (HLS.out.trans HL.out) HBK.out), Lib.hid H.drop⟩
            case measure => simp [intOf]; omega
    · obtain rfl : k = n := by omega
      have HBB := HB
      rcases HBB.out with ⟨hk0, rfl⟩ | ⟨b, hb, hbk, rfl, hq⟩
      · have HI : Hid (isBest m (-1)) := Lib.hid (.inl ⟨List.length_eq_zero_iff.1 (by rw [HN.out]; exact hk0), rfl⟩)
        clear hk0 HBB
        go_wp2
        go_ret
        exact ⟨_, rfl, HI.out, HF.out.below⟩
      · have HI : Hid (isBest m b) := Lib.hid (.inr ⟨b, hb, rfl, fun j hj => hq j hj (by rw [← HN.out]; exact hj)⟩)
        clear hbk hq HBB
        go_wp2
        go_ret
        exact ⟨_, rfl, HI.out, HF.out.below⟩
end Go.Proofs.Ytcopnddmkmgihaa.Ak
