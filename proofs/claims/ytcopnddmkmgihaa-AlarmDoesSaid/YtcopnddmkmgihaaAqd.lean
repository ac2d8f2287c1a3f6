/- alarm: the reference's table: a timer less, one more, when, and which go off. -/
import Derived.Test.YtcopnddmkmgihaaAq
namespace Go.Proofs.Ytcopnddmkmgihaa.Ak
open Go.RowKit Go.Proofs.YtcopnddmkmgihaaW.PrintWords Go.Proofs.YtcopnddmkmgihaaW.PrintLast Go.Proofs.YtcopnddmkmgihaaW.PrintMore Go.Proofs.YtcopnddmkmgihaaEv
set_option linter.unusedVariables false
set_option linter.unusedSimpArgs false
theorem info75 : (Try.prog.info? 75).map (fun i => (i.zero, i.size, i.bytes)) = some (some (.agg #[.int .i64 0, .int .i64 0]), 2, 16) := by kernel_rfl
/-- Without the timers of a number; what is answered. -/
def flt (m : List (Int × Int)) (id : Int) : List (Int × Int) := m.filter (fun x => !isId id x)
def anyE (m : List (Int × Int)) (id : Int) : Int := if m.any (isId id) then 0 else 9
theorem own_same {w w' : World} {base : Nat} {e : TypeId} {size : Nat} {v : Value} {n : Nat} {xs : List Value} (h : w.ownsRow base e size v n xs) (hW : ∀ k, ¬ (fun _ : Nat => False) k → k < w.heap.size → w'.heap[k]? = w.heap[k]?) : w'.ownsRow base e size v n xs := by
  refine ⟨h.1, ?_⟩
  rcases h.2 with hn | ⟨b, cap, cur, e1, hb, hbb, rest⟩
  · exact .inl hn
  · exact .inr ⟨b, cap, cur, e1, hb, (hW b (fun q => q) (blk_lt hbb)).trans hbb, rest⟩
theorem flt_hit {m : List (Int × Int)} {k : Nat} (hk : k < m.length) {id : Int} (h : m[k].1 = id) : flt (m.take (k + 1)) id = flt (m.take k) id ∧ anyE (m.take (k + 1)) id = 0 := by
  have key : ∀ (t : List (Int × Int)) (x : Int × Int), x.1 = id → flt (t ++ [x]) id = flt t id ∧ anyE (t ++ [x]) id = 0 := fun t x e => by
    unfold flt anyE
    constructor
    · simp [isId, e]
    · rw [if_pos (by simp [isId, e])]
  rw [List.take_succ_eq_append_getElem hk]
  exact key _ _ h
theorem flt_miss {m : List (Int × Int)} {k : Nat} (hk : k < m.length) {id : Int} (h : m[k].1 ≠ id) : flt (m.take (k + 1)) id = flt (m.take k) id ++ [m[k]] ∧ anyE (m.take (k + 1)) id = anyE (m.take k) id := by
  have key : ∀ (t : List (Int × Int)) (x : Int × Int), x.1 ≠ id → flt (t ++ [x]) id = flt t id ++ [x] ∧ anyE (t ++ [x]) id = anyE t id := fun t x e => by
    unfold flt anyE
    constructor
    · simp [isId, e]
    · rw [show (t ++ [x]).any (isId id) = t.any (isId id) by simp [isId, e]]
  rw [List.take_succ_eq_append_getElem hk]
  exact key _ _ h
theorem fl_one_ (x : Int × Int) : fl [x] = [.int .i64 x.1, .int .i64 x.2] := rfl
/-- The table's slice is turned to a row of new blocks. -/
theorem RTab.store {w w1 : World} {r : Nat} {v u : Value} {m m' : List (Int × Int)} (h : RTab w r v m) (hb : Below w.heap.size w w1) (ho : w1.ownsRow w.heap.size 75 2 u m'.length (fl m')) :
    RTab (w1.setCell ⟨r, 0, none⟩ u) r u m' ∧ Chg (fun k => k = r) w (w1.setCell ⟨r, 0, none⟩ u) ∧ (w1.setCell ⟨r, 0, none⟩ u).ownsRow w.heap.size 75 2 u m'.length (fl m') := by
  have hlt := h.lt
  have hc1 : Chg (fun k => k = r) w1 (w1.setCell ⟨r, 0, none⟩ u) := (Chg.refl _ w1).set _ _ (fun _ => rfl)
  have ho2 := ownsRow_chg ho hc1 (fun k e => by omega)
  refine ⟨⟨?_, own_weaken ho2 (Nat.zero_le _)⟩, ?_, ho2⟩
  · have := blk_set (h.below hb).blk 0 u
    rw [this]
    rfl
  · exact (Chg.of_below hb).trans hc1 (fun _ _ q => q)
set_option maxRecDepth 100000 in
set_option maxHeartbeats 8000000 in
theorem RDrop_calls (w : World) (r : Nat) (v : Value) (m : List (Int × Int)) (h : RTab w r v m) (id : Int) (hl : m.length ≤ 4096) :
    Calls Try.prog 19 #[.pointer (some ⟨r, 0, none⟩), .int .i64 id] w fun e w' => e = .returned (.int .i64 (anyE m id)) ∧ ∃ u, RTab w' r u (flt m id) ∧ w'.ownsRow w.heap.size 75 2 u (flt m id).length (fl (flt m id)) ∧ Chg (fun k => k = r) w w' := by
  obtain ⟨A, c, hv, hrow⟩ := h.row.slice
  subst hv
  have hct := h.cell
  have HT := Lib.hid h
  obtain ⟨n, hn⟩ : ∃ n, m.length = n := ⟨_, rfl⟩
  have HN := Lib.hid hn
  rw [hn] at HT hl hrow hct
  clear h hn
  go_enter Try.func19, Try.ntmps19
  go_wp2
  go_loopw [5, 6, 14] (fun v5 v6 v14 wr => ∃ (k : Nat) (u : Value), k ≤ n ∧ v14 = .int .i64 k ∧ v5 = .int .i64 (anyE (m.take k) id) ∧ u = v6 ∧ Hid (Below w.heap.size w wr) ∧ Hid (wr.ownsRow w.heap.size 75 2 u (flt (m.take k) id).length (fl (flt (m.take k) id)))) (fun v5 v6 v14 _ => n - (intOf v14).toNat)
  case atStart => exact ⟨0, _, by omega, rfl, rfl, rfl, Lib.hid (Below.refl _ _), Lib.hid (World.ownsRow_nil _ _ _ _)⟩
  case round =>
    obtain ⟨k, u, hk, rfl, rfl, hu, HB, HO⟩ := hrel
    subst hu
    by_cases hlt : k < n
    · obtain ⟨g, cur, rfl, _, _⟩ := hrow (by omega)
      have hk1 : (k : Int) < (n : Int) := by omega
      have hs1 : -9223372036854775808 ≤ (k : Int) + 1 := by omega
      have hs2 : (k : Int) + 1 ≤ 9223372036854775807 := by omega
      have hkm : k < m.length := by rw [HN.out]; exact hlt
      obtain ⟨x1, x2, hx⟩ : ∃ x1 x2, m[k] = (x1, x2) := ⟨_, _, rfl⟩
      have T1 := HT.out.below HB.out
      have H := fr_mk HB.out (p := fun W => RTab W r (.slice (some ⟨g, 0, none⟩) n c) m ∧ W.ownsRow w.heap.size 75 2 u (flt (m.take k) id).length (fl (flt (m.take k) id))) (fun W' hW => ⟨T1.same hW, own_same HO.out hW⟩)
      have HC := Lib.hid (T1.elems k hkm x1 x2 hx)
      have hq4 : (flt (m.take k) id).length ≤ k := Nat.le_trans (List.length_filter_le _ _) (by rw [List.length_take]; omega)
      have HQ4 := Lib.hid hq4
      clear T1 hq4
      by_cases hid : x1 = id
      · have d1 : (x1 == id) = true := beq_iff_eq.mpr hid
        have HF := Lib.hid (flt_hit hkm (id := id) (by rw [hx]; exact hid))
        clear hx hkm hid
        go_wp2_with (first
          | ((with_reducible refine gate_dst (N := 17) rfl ?_); refine load_cells rfl rfl (ad := ⟨g, k * 2, none⟩) (cs := [.int .i64 x1, .int .i64 x2]) ?hx Try.underlying75 rfl (by kernel_rfl) HC.out ?_; (case hx => first | rfl | (go_simp; done) | (go_simp; rfl)))
          | ((with_reducible refine gate_dst (N := 8) rfl ?_); refine fr_new H (N := 8) rfl rfl (cs := #[.int .i64 0, .int .i64 0]) (t := 75) ?hr ?_; (case hr => first | (go_simp; done) | (go_simp; rfl)); intro g8 w8 H1; clear H; have H := H1; clear H1)
          | ((with_reducible refine gate_store (t := 75) (p := 8) rfl ?_); refine fr_put H rfl rfl rfl rfl rfl (by repeat (first | exact At.head | apply At.tail)) (by rfl) (by kernel_rfl) (by simp [Value.oneCell']) ?_; intro w8_ H1; clear H; have H := H1; clear H1)
          | ((with_reducible refine gate_dst (N := 19) rfl ?_); refine fr_get H rfl rfl rfl (by repeat (first | exact At.head | apply At.tail)) Try.underlying3 rfl (by simp only [List.getElem?_toArray, List.getElem?_cons_succ, List.getElem?_cons_zero]; rfl) ?_)
          | ((with_reducible refine gate_dst (N := 23) rfl ?_); refine fr_load H rfl rfl rfl (by repeat (first | exact At.head | apply At.tail)) Try.underlying75 rfl (by kernel_rfl) ?_)
          )
        go_roundw
        case rel => exact ⟨k + 1, u, by omega, by simp, by rw [HF.out.2], rfl, Lib.hid H.below, Lib.hid (by rw [HF.out.1]; exact H.now.2)⟩
        case measure => simp [intOf]; omega
      · have d1 : (x1 == id) = false := beq_eq_false_iff_ne.mpr hid
        have HF := Lib.hid (flt_miss hkm (id := id) (by rw [hx]; exact hid))
        have HX := Lib.hid hx
        clear hx hid
        go_wp2_with (first
          | ((with_reducible refine gate_dst (N := 17) rfl ?_); refine load_cells rfl rfl (ad := ⟨g, k * 2, none⟩) (cs := [.int .i64 x1, .int .i64 x2]) ?hx Try.underlying75 rfl (by kernel_rfl) HC.out ?_; (case hx => first | rfl | (go_simp; done) | (go_simp; rfl)))
          | (at_builtin; refine print_append_cells w.heap.size rfl _ _ 38 75 (.agg #[.int .i64 0, .int .i64 0]) 2 16 rfl Try.underlying38 info75 rfl (by decide) (by decide) u (flt (m.take k) id).length (fl (flt (m.take k) id)) [.int .i64 x1, .int .i64 x2] rfl rfl rfl (by simp [Value.oneCell']) H.now.2 H.below H.below.size (by have := HQ4.out; omega) ?_; intro u' w1 hown' hB1 hgrow hat)
          | ((with_reducible refine gate_dst (N := 8) rfl ?_); refine fr_new H (N := 8) rfl rfl (cs := #[.int .i64 0, .int .i64 0]) (t := 75) ?hr ?_; (case hr => first | (go_simp; done) | (go_simp; rfl)); intro g8 w8 H1; clear H; have H := H1; clear H1)
          | ((with_reducible refine gate_store (t := 75) (p := 8) rfl ?_); refine fr_put H rfl rfl rfl rfl rfl (by repeat (first | exact At.head | apply At.tail)) (by rfl) (by kernel_rfl) (by simp [Value.oneCell']) ?_; intro w8_ H1; clear H; have H := H1; clear H1)
          | ((with_reducible refine gate_dst (N := 19) rfl ?_); refine fr_get H rfl rfl rfl (by repeat (first | exact At.head | apply At.tail)) Try.underlying3 rfl (by simp only [List.getElem?_toArray, List.getElem?_cons_succ, List.getElem?_cons_zero]; rfl) ?_)
          | ((with_reducible refine gate_dst (N := 23) rfl ?_); refine fr_load H rfl rfl rfl (by repeat (first | exact At.head | apply At.tail)) Try.underlying75 rfl (by kernel_rfl) ?_)
          )
        go_roundw
        case rel => exact ⟨k + 1, u', by omega, by simp, by rw [HF.out.2], rfl, Lib.hid hB1, Lib.hid (by rw [HF.out.1, HX.out, List.length_append, fl_append, fl_one_]; exact hown')⟩
        case measure => simp [intOf]; omega
    · obtain rfl : k = n := by omega
      have T1 := HT.out.below HB.out
      have hct1 := T1.cell
      have hfz1 := blk_frozen T1.blk 0
      have ht : m.take k = m := List.take_of_length_le (by rw [HN.out]; exact Nat.le_refl _)
      rw [ht] at HO
      have HTK := Lib.hid ht
      obtain ⟨A2, c2, hu2⟩ := own_slice HO.out
      subst hu2
      clear T1 ht
      go_wp2
      go_ret
      obtain ⟨h1, h2, h3⟩ := HT.out.store HB.out HO.out
      exact ⟨by rw [HTK.out]; first | done | rfl, _, h1, h3, h2⟩
theorem fin_set {w w1 w2 : World} {r n c c2 : Nat} {A A2 : Option Addr} {q : List (Int × Int)} {id at_ : Int} (hlt : r < w.heap.size) (hn : q.length = n) (ho : w1.ownsRow w.heap.size 75 2 (.slice A n c) n (fl q)) (hc : Chg (fun k => k = r) w w1)
    (hw : Chg (fun k => (Value.slice A n c).ownBlock = some k) w1 w2) (ho2 : w2.ownsRow w.heap.size 75 2 (.slice A2 (n + 1) c2) (n + 1) (fl q ++ [.int .i64 id, .int .i64 at_])) (hb : w2.heap[r]? = some (.cells #[.slice A n c] 40 (0, 0))) :
    RTab (w2.setCell ⟨r, 0, none⟩ (.slice A2 (n + 1) c2)) r (.slice A2 (n + 1) c2) (q ++ [(id, at_)]) ∧ Chg (fun k => k = r) w (w2.setCell ⟨r, 0, none⟩ (.slice A2 (n + 1) c2)) := by
  have hc3 : Chg (fun k => k = r) w2 (w2.setCell ⟨r, 0, none⟩ (.slice A2 (n + 1) c2)) := (Chg.refl _ w2).set _ _ (fun _ => rfl)
  have ho3 := ownsRow_chg ho2 hc3 (fun k e => by omega)
  refine ⟨⟨by rw [blk_set hb]; rfl, ?_⟩, ?_⟩
  · unfold Rw
    rw [fl_append, fl_one_, List.length_append, hn]
    exact own_weaken ho3 (Nat.zero_le _)
  · exact (hc.trans hw (fun i hi e => by have := own_base ho i e; omega)).trans hc3 (fun _ _ q => q)
/-- With one timer more. -/
def setR (m : List (Int × Int)) (id at_ : Int) : Int × List (Int × Int) :=
  if ¬ m.any (isId id) = true ∧ (flt m id).length = 64 then (7, flt m id) else (0, flt m id ++ [(id, at_)])
set_option maxRecDepth 100000 in
set_option maxHeartbeats 8000000 in
theorem RSet_calls (w : World) (r : Nat) (v : Value) (m : List (Int × Int)) (h : RTab w r v m) (id at_ : Int) (hl : m.length ≤ 64) :
    Calls Try.prog 17 #[.pointer (some ⟨r, 0, none⟩), .int .i64 id, .int .i64 at_] w fun e w' => e = .returned (.int .i64 (setR m id at_).1) ∧ ∃ u, RTab w' r u (setR m id at_).2 ∧ Chg (fun k => k = r) w w' := by
  have HT := Lib.hid h
  have HL := Lib.hid hl
  have hlt := h.lt
  have hq : (flt m id).length ≤ 64 := Nat.le_trans (List.length_filter_le _ _) hl
  have HQ := Lib.hid hq
  clear h hl hq
  have hdrop : Calls Try.prog 19 #[.pointer (some ⟨r, 0, none⟩), .int .i64 id] w fun e w' => e = .returned (.int .i64 (anyE m id)) ∧ ∃ A c, w'.cell? ⟨r, 0, none⟩ = some (.slice A (flt m id).length c) ∧ w'.frozen? ⟨r, 0, none⟩ = false ∧ Hid (RTab w' r (.slice A (flt m id).length c) (flt m id) ∧ w'.ownsRow w.heap.size 75 2 (.slice A (flt m id).length c) (flt m id).length (fl (flt m id)) ∧ Chg (fun k => k = r) w w') := by
    refine (RDrop_calls w r v m HT.out id (by have := HL.out; omega)).mono ?_
    rintro e w' ⟨rfl, u, h1, h2, h3⟩
    obtain ⟨A2, c2, hu2⟩ := own_slice h2
    subst hu2
    exact ⟨rfl, A2, c2, h1.cell, blk_frozen h1.blk 0, Lib.hid ⟨h1, h2, h3⟩⟩
  obtain ⟨q, hq⟩ : ∃ q, flt m id = q := ⟨_, rfl⟩
  obtain ⟨n, hn⟩ : ∃ n, q.length = n := ⟨_, rfl⟩
  have hn64 : n ≤ 64 := by rw [← hn, ← hq]; exact HQ.out
  have HN := Lib.hid hn
  rw [hq, hn] at hdrop
  by_cases ha : m.any (isId id) = true
  · have he : anyE m id = 0 := by unfold anyE; rw [if_pos ha]
    have hs : setR m id at_ = (0, q ++ [(id, at_)]) := by unfold setR; rw [if_neg (fun z => z.1 ha), hq]
    rw [he] at hdrop
    rw [hs]
    have HD := Lib.hid hdrop
    clear hdrop he hs hq hn ha
    go_enter Try.func17, Try.ntmps17
    go_wp2_with (first
      | (go_at_call 19; refine HD.out.mono ?_; rintro e w1 ⟨rfl, A, c, hc1, hf1, HP⟩; have hlt1 := HP.out.1.lt)
      | (at_builtin; refine print_append_cells (w0 := w1) w.heap.size rfl _ _ 38 75 (.agg #[.int .i64 0, .int .i64 0]) 2 16 rfl Try.underlying38 info75 rfl (by decide) (by decide) (.slice A n c) n (fl q) [.int .i64 id, .int .i64 at_] rfl rfl rfl (by simp [Value.oneCell']) HP.out.2.1 ⟨rfl, rfl, rfl, Nat.le_refl _, fun _ _ => rfl⟩ HP.out.2.2.size (by omega) ?_; intro u' w2 hown' hB1 hgrow hat; obtain ⟨A2, c2, hu2⟩ := own_slice hown'; subst hu2; have HW := Lib.hid (show Chg (fun k => (Value.slice A n c).ownBlock = some k) w1 w2 from Chg.of_grown hgrow (fun k e => e)); have HO2 := Lib.hid hown'; clear hown' hB1 hgrow hat; have hblk : w2.heap[r]? = some (.cells #[.slice A n c] 40 (0, 0)) := (HW.out.block r hlt1 (fun e => by have := own_base HP.out.2.1 r e; omega)).trans HP.out.1.blk; have hc2 := blk_cell hblk 0; have hf2 := blk_frozen hblk 0; have HBK := Lib.hid hblk; clear hblk))
    go_ret
    exact ⟨rfl, _, (fin_set HT.out.lt HN.out HP.out.2.1 HP.out.2.2 HW.out HO2.out HBK.out).1, (fin_set HT.out.lt HN.out HP.out.2.1 HP.out.2.2 HW.out HO2.out HBK.out).2⟩
  · have he : anyE m id = 9 := by unfold anyE; rw [if_neg ha]
    rw [he] at hdrop
    have HD := Lib.hid hdrop
    by_cases h64 : n = 64
    · have hs : setR m id at_ = (7, q) := by unfold setR; rw [if_pos ⟨ha, by rw [hq, hn]; exact h64⟩, hq]
      rw [hs]
      have h64' : (n : Int) = 64 := by omega
      clear hdrop he hs hq hn ha h64
      go_enter Try.func17, Try.ntmps17
      go_wp2_with (go_at_call 19; refine HD.out.mono ?_; rintro e w1 ⟨rfl, A, c, hc1, hf1, HP⟩; have hlt1 := HP.out.1.lt)
      go_ret
      exact ⟨rfl, _, HP.out.1, HP.out.2.2⟩
    · have hs : setR m id at_ = (0, q ++ [(id, at_)]) := by unfold setR; rw [if_neg (fun z => h64 (by rw [← hn, ← hq]; exact z.2)), hq]
      rw [hs]
      have h64' : ¬ (n : Int) = 64 := by omega
      clear hdrop he hs hq hn ha h64
      go_enter Try.func17, Try.ntmps17
      go_wp2_with (first
        | (go_at_call 19; refine HD.out.mono ?_; rintro e w1 ⟨rfl, A, c, hc1, hf1, HP⟩; have hlt1 := HP.out.1.lt)
        | (at_builtin; refine print_append_cells (w0 := w1) w.heap.size rfl _ _ 38 75 (.agg #[.int .i64 0, .int .i64 0]) 2 16 rfl Try.underlying38 info75 rfl (by decide) (by decide) (.slice A n c) n (fl q) [.int .i64 id, .int .i64 at_] rfl rfl rfl (by simp [Value.oneCell']) HP.out.2.1 ⟨rfl, rfl, rfl, Nat.le_refl _, fun _ _ => rfl⟩ HP.out.2.2.size (by omega) ?_; intro u' w2 hown' hB1 hgrow hat; obtain ⟨A2, c2, hu2⟩ := own_slice hown'; subst hu2; have HW := Lib.hid (show Chg (fun k => (Value.slice A n c).ownBlock = some k) w1 w2 from Chg.of_grown hgrow (fun k e => e)); have HO2 := Lib.hid hown'; clear hown' hB1 hgrow hat; have hblk : w2.heap[r]? = some (.cells #[.slice A n c] 40 (0, 0)) := (HW.out.block r hlt1 (fun e => by have := own_base HP.out.2.1 r e; omega)).trans HP.out.1.blk; have hc2 := blk_cell hblk 0; have hf2 := blk_frozen hblk 0; have HBK := Lib.hid hblk; clear hblk))
      go_ret
      exact ⟨rfl, _, (fin_set HT.out.lt HN.out HP.out.2.1 HP.out.2.2 HW.out HO2.out HBK.out).1, (fin_set HT.out.lt HN.out HP.out.2.1 HP.out.2.2 HW.out HO2.out HBK.out).2⟩
end Go.Proofs.Ytcopnddmkmgihaa.Ak
