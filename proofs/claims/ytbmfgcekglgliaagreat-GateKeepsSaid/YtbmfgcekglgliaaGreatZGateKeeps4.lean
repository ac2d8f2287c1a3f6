/- Texts Gu, Gy, Rz, Gs, Ro, in one file, without what is not needed here. -/
import Derived.Lib.SliceRun
import Derived.Lib.SlicesS
import Derived.SizedLaws
import Derived.ChangeArms
import Derived.WideShapes
import Derived.ShutString
import Derived.ChangeSlices
import Derived.ProofKit
import Derived.Test.YtbmfgcekglgliaaGreatZGateKeeps3
namespace Go.Proofs.YtbmfgcekglgliaaGreat.G
open Go.RowKit Go.Proofs.YtbmfgcekglgliaaGreatW.PrintWords Go.Proofs.YtbmfgcekglgliaaGreatW.PrintLast Go.Proofs.YtbmfgcekglgliaaGreatW.PrintMore Go.Proofs.YtbmfgcekglgliaaGreatPl Go.Proofs.YtbmfgcekglgliaaGreatEm Go.Proofs.YtbmfgcekglgliaaGreatKr Go.Proofs.YtbmfgcekglgliaaGreat.X
set_option linter.unusedVariables false
set_option linter.unusedSimpArgs false
theorem fit_cases (ki pv off x0 x1 : Int) (f : Bool) (hf : (decide (ki < 32) && inP x0 0 1099511627776 && inP x1 (-32) 32 && (decide (ki = 0) || decide (86400 ≤ x0 - pv)) && (decide (x1 - off = 1) || decide (x1 - off = -1))) = f) (h0 : 0 ≤ ki) :
    (f = false ∧ decide (32 ≤ ki) = true) ∨ (f = false ∧ decide (32 ≤ ki) = false ∧ inP x0 0 1099511627776 = false) ∨ (f = false ∧ decide (32 ≤ ki) = false ∧ inP x0 0 1099511627776 = true ∧ inP x1 (-32) 32 = false) ∨
    (f = false ∧ decide (32 ≤ ki) = false ∧ inP x0 0 1099511627776 = true ∧ inP x1 (-32) 32 = true ∧ decide (0 < ki) = true ∧ decide (x0 - pv < 86400) = true) ∨
    (f = false ∧ decide (32 ≤ ki) = false ∧ inP x0 0 1099511627776 = true ∧ inP x1 (-32) 32 = true ∧ decide (0 < ki) = false ∧ (x1 - off == 1) = false ∧ (x1 - off == -1) = false) ∨
    (f = false ∧ decide (32 ≤ ki) = false ∧ inP x0 0 1099511627776 = true ∧ inP x1 (-32) 32 = true ∧ decide (0 < ki) = true ∧ decide (x0 - pv < 86400) = false ∧ (x1 - off == 1) = false ∧ (x1 - off == -1) = false) ∨
    (f = true ∧ decide (32 ≤ ki) = false ∧ inP x0 0 1099511627776 = true ∧ inP x1 (-32) 32 = true ∧ decide (0 < ki) = false ∧ (x1 - off == 1) = true) ∨
    (f = true ∧ decide (32 ≤ ki) = false ∧ inP x0 0 1099511627776 = true ∧ inP x1 (-32) 32 = true ∧ decide (0 < ki) = false ∧ (x1 - off == 1) = false ∧ (x1 - off == -1) = true) ∨
    (f = true ∧ decide (32 ≤ ki) = false ∧ inP x0 0 1099511627776 = true ∧ inP x1 (-32) 32 = true ∧ decide (0 < ki) = true ∧ decide (x0 - pv < 86400) = false ∧ (x1 - off == 1) = true) ∨
    (f = true ∧ decide (32 ≤ ki) = false ∧ inP x0 0 1099511627776 = true ∧ inP x1 (-32) 32 = true ∧ decide (0 < ki) = true ∧ decide (x0 - pv < 86400) = false ∧ (x1 - off == 1) = false ∧ (x1 - off == -1) = true) := by
  have e1 : decide (ki < 32) = !decide (32 ≤ ki) := by rw [Bool.eq_iff_iff]; simp [Int.not_le]
  have e2 : decide (ki = 0) = !decide (0 < ki) := by rw [Bool.eq_iff_iff]; simp; omega
  have e3 : decide (86400 ≤ x0 - pv) = !decide (x0 - pv < 86400) := by rw [Bool.eq_iff_iff]; simp [Int.not_lt]
  have e4 : decide (x1 - off = 1) = (x1 - off == 1) := by rw [Bool.eq_iff_iff]; simp
  have e5 : decide (x1 - off = -1) = (x1 - off == -1) := by rw [Bool.eq_iff_iff]; simp
  rw [e1, e2, e3, e4, e5] at hf
  subst hf
  generalize decide (32 ≤ ki) = a
  generalize inP x0 0 1099511627776 = b
  generalize inP x1 (-32) 32 = c
  generalize decide (0 < ki) = d
  generalize decide (x0 - pv < 86400) = e
  generalize (x1 - off == 1) = f
  generalize (x1 - off == -1) = g
  cases a <;> cases b <;> cases c <;> cases d <;> cases e <;> cases f <;> cases g <;> simp
set_option maxRecDepth 100000 in
set_option maxHeartbeats 8000000 in
theorem Table_calls (A : Option Addr) (c : Nat) (l : List Lp) (w : World) (hr : Kd.C k58 w A l.length l) :
    Calls Tryz.prog 85 #[.slice A l.length c] w fun e w' => e = .returned (.bool (tb l)) ∧ Below w.heap.size w w' := by
  have hm : l.length ≤ 9223372036854775807 := hr.2.1
  have H := Fr.start0 (M := fun _ => False) (A := fun _ => False) (w := w) (p := fun W => Kd.C k58 W A l.length l) (fun _ h => h.elim) (Go.Proofs.YtbmfgcekglgliaaGreatEv.Tr.of_C hr k58_heap)
  obtain ⟨n, hn⟩ : ∃ n, l.length = n := ⟨_, rfl⟩
  obtain ⟨r, hr'⟩ : ∃ r, tb l = r := ⟨_, rfl⟩
  have HN := Lib.hid hn
  have HT : Hid (tbI 0 0 0 (l.drop 0) = r) := Lib.hid hr'
  rw [hn] at hm ⊢
  rw [hr']
  clear hr hn hr'
  go_enter Tryz.func85, Tryz.ntmps85
  go_wp2
  go_loopw [3, 8] (fun v3 v8 wr => ∃ (k : Nat) (pv off : Int), k ≤ n ∧ v8 = .int .i64 k ∧ v3 = .int .i64 off ∧ Hid (tbI k pv off (l.drop k) = r) ∧ -32 ≤ off ∧ off ≤ 32 ∧ 0 ≤ pv ∧ pv ≤ 1099511627776 ∧ Hid (0 < k → ∃ h : k - 1 < l.length, (l[k - 1]'h).f0 = pv) ∧ Fr (fun _ => False) (fun _ => False) w wr [] (fun W => Kd.C k58 W A l.length l)) (fun _ v8 _ => n - (intOf v8).toNat)
  case atStart => exact ⟨0, 0, 0, by omega, rfl, rfl, HT, by omega, by omega, by omega, by omega, Lib.hid (fun h => absurd h (by omega)), H⟩
  case round =>
    clear H HT
    obtain ⟨k, pv, off, hk, rfl, rfl, HS, ho1, ho2, hp1, hp2, HP, H⟩ := hrel
    by_cases hlt : k < n
    · have hkl : k < l.length := by rw [HN.out]; exact hlt
      have hk1 : (k : Int) < (n : Int) := by omega
      have hs1 : -9223372036854775808 ≤ (k : Int) + 1 := by omega
      have hs2 : (k : Int) + 1 ≤ 9223372036854775807 := by omega
      obtain ⟨ad, e, hx⟩ := leap_at H.now k hkl
      cases e
      obtain ⟨x, hxe⟩ : ∃ x, l[k] = x := ⟨_, rfl⟩
      have HD : Hid (l.drop k = x :: l.drop (k + 1)) := Lib.hid (by rw [List.drop_eq_getElem_cons hkl, hxe])
      have HX : Hid (∃ h : k < l.length, (l[k]'h).f0 = x.f0) := Lib.hid ⟨hkl, by rw [hxe]⟩
      rw [hxe] at hx
      obtain ⟨x0, x1, e0, e1⟩ : ∃ x0 x1, x.f0 = x0 ∧ x.f1 = x1 := ⟨_, _, rfl, rfl⟩
      obtain ⟨f, hf⟩ : ∃ f, (decide ((k : Int) < 32) && inP x0 0 1099511627776 && inP x1 (-32) 32 && (decide ((k : Int) = 0) || decide (86400 ≤ x0 - pv)) && (decide (x1 - off = 1) || decide (x1 - off = -1))) = f := ⟨_, rfl⟩
      have HS2 : Hid ((f && tbI (k + 1) x0 x1 (l.drop (k + 1))) = r) := Lib.hid (by
        rw [← HS.out, HD.out]
        show _ = (decide (k < 32) && inP x.f0 0 1099511627776 && inP x.f1 (-32) 32 && (decide (k = 0) || decide (86400 ≤ x.f0 - pv)) && (decide (x.f1 - off = 1) || decide (x.f1 - off = -1)) && tbI (k + 1) x.f0 x.f1 (l.drop (k + 1)))
        rw [e0, e1, ← hf]
        have a1 : decide ((k : Int) < 32) = decide (k < 32) := by rw [Bool.eq_iff_iff]; simp; omega
        have a2 : decide ((k : Int) = 0) = decide (k = 0) := by rw [Bool.eq_iff_iff]; simp
        rw [a1, a2])
      have hcs := fit_cases (k : Int) pv off x0 x1 f hf (by omega)
      rw [e0] at HX
      rw [e0, e1] at hx
      have HC := Lib.hid hx
      have HPV : Hid (∀ W, Kd.C k58 W (some ad) l.length l → W.cell? ((ad.add (((k : Int) - 1).toNat * 2)).add 0) = some (.int .i64 (if 0 < k then pv else ((l.map (·.f0)).getD 0 0)))) := Lib.hid (fun W hW => by
        have hq : ((k : Int) - 1).toNat = k - 1 := by omega
        obtain ⟨ad', e', h⟩ := leap_at hW (k - 1) (by omega)
        cases e'
        rw [hq]
        have h1 := h 0 _ rfl
        by_cases h0 : 0 < k
        · obtain ⟨_, h2⟩ := HP.out h0
          rw [if_pos h0, ← h2]
          exact h1
        · rw [if_neg h0]
          have hk0 : k = 0 := by omega
          subst hk0
          rw [show (l.map (·.f0)).getD 0 0 = l[0].f0 by simp [List.getD_eq_getElem?_getD, hkl]]
          exact h1)
      have hI0 : inP x0 0 1099511627776 = true → 0 ≤ x0 ∧ x0 ≤ 1099511627776 := in_bd
      have hI1 : inP x1 (-32) 32 = true → -32 ≤ x1 ∧ x1 ≤ 32 := in_bd
      have HI0 := Lib.hid hI0
      have HI1 := Lib.hid hI1
      clear hI0 hI1 HS HP HD hx hxe e0 e1 hf
      generalize hki : (k : Int) = ki at hk1 hs1 hs2 HPV hcs ⊢
      have HKI := Lib.hid hki
      have hki0 : 0 ≤ ki := by omega
      have HQ : Hid (decide (0 < ki) = true → ∀ W, Kd.C k58 W (some ad) l.length l → W.cell? ((ad.add ((ki - 1).toNat * 2)).add 0) = some (.int .i64 pv)) := Lib.hid (fun h W hW => by
        have h0 : 0 < k := by have := of_decide_eq_true h; omega
        have := HPV.out W hW
        rw [if_pos h0] at this
        exact this)
      have HC1 : Hid (∀ j u, [Value.int .i64 x0, .int .i64 x1][j]? = some u → wr.cell? ((ad.add (ki.toNat * 2)).add j) = some u) := Lib.hid (by rw [show ki.toNat = k by have := HKI.out; omega]; exact HC.out)
      clear hki HPV HC
      obtain ⟨kj, hkj⟩ : ∃ kj, ki - 1 = kj := ⟨_, rfl⟩
      obtain ⟨ee, hee⟩ : ∃ ee, x0 - pv = ee := ⟨_, rfl⟩
      obtain ⟨dd, hdd⟩ : ∃ dd, x1 - off = dd := ⟨_, rfl⟩
      have hw1 : IntKind.i64.wrap (ki - 1) = kj := by rw [IntKind.wrap_i64]; omega
      rw [hee, hdd] at hcs
      rw [hkj] at HQ
      have HDD := Lib.hid (And.intro hkj (And.intro hee hdd))
      clear hkj hee hdd
      rcases hcs with ⟨rfl, d1⟩ | ⟨rfl, d1, d2⟩ | ⟨rfl, d1, d2, d3⟩ | ⟨rfl, d1, d2, d3, d4, d5⟩ | ⟨rfl, d1, d2, d3, d4, d5, d6⟩ | ⟨rfl, d1, d2, d3, d4, d5, d6, d7⟩ | ⟨rfl, d1, d2, d3, d4, d5⟩ | ⟨rfl, d1, d2, d3, d4, d5, d6⟩ | ⟨rfl, d1, d2, d3, d4, d5, d6⟩ | ⟨rfl, d1, d2, d3, d4, d5, d6, d7⟩
      all_goals
        try have HPV := Lib.hid (HQ.out (by assumption))
        try
          have q0 := HI0.out (by assumption)
          obtain ⟨q01, q02⟩ := q0
        try
          have q1 := HI1.out (by assumption)
          obtain ⟨q11, q12⟩ := q1
        try have hw2 : IntKind.i64.wrap (x0 - pv) = ee := by rw [IntKind.wrap_i64]; have := HDD.out; omega
        try have hw3 : IntKind.i64.wrap (x1 - off) = dd := by rw [IntKind.wrap_i64]; have := HDD.out; omega
        try have hw6 : (dd != 1) = false := by simp only [bne, ‹(dd == 1) = true›, Bool.not_true]
        try have hw7 : (dd != 1) = true := by simp only [bne, ‹(dd == 1) = false›, Bool.not_false]
        try have hw8 : (dd != -1) = false := by simp only [bne, ‹(dd == -1) = true›, Bool.not_true]
        try have hw9 : (dd != -1) = true := by simp only [bne, ‹(dd == -1) = false›, Bool.not_false]
        try have hw4 : 0 ≤ kj := by have := of_decide_eq_true ‹decide (0 < ki) = true›; have := HDD.out; omega
        try have hw5 : kj < (n : Int) := by have := HDD.out; omega
        go_wp2_with (first
          | ((with_reducible refine gate_dst (N := 12) rfl ?_); refine load_cells rfl rfl (ad := ad.add (ki.toNat * 2)) (cs := [.int .i64 x0, .int .i64 x1]) ?hx Tryz.underlying58 rfl (by kernel_rfl) HC1.out ?_; (case hx => first | rfl | (go_simp; done) | (go_simp; rfl)))
          | ((with_reducible refine gate_dst (N := 12) rfl ?_); refine fr_sub H (n := 2) rfl rfl rfl (by repeat (first | exact At.head | apply At.tail)) Tryz.underlying58 rfl (by kernel_rfl) (by simp only [List.toList_toArray, List.drop_succ_cons, List.drop_zero, List.take_succ_cons, List.take_zero]; rfl) (by rfl) ?_)
          | ((with_reducible refine gate_dst (N := 5) rfl ?_); refine fr_new H (N := 5) rfl rfl (cs := #[.int .i64 0, .int .i64 0]) (t := 58) ?hr ?_; (case hr => first | (go_simp; done) | (go_simp; rfl)); intro g5 w5 H1; replace H := H1; clear H1)
          | ((with_reducible refine gate_store (t := 58) (p := 5) rfl ?_); refine fr_put H rfl rfl rfl rfl rfl (by repeat (first | exact At.head | apply At.tail)) (by rfl) (by kernel_rfl) (by simp [Value.oneCell']) ?_; intro w5_ H1; replace H := H1; clear H1)
          | ((with_reducible refine gate_dst (N := 60) rfl ?_); refine fr_get H rfl rfl rfl (by repeat (first | exact At.head | apply At.tail)) Tryz.underlying3 rfl (by simp only [List.getElem?_toArray, List.getElem?_cons_succ, List.getElem?_cons_zero]; rfl) ?_)
          | fail)
        refine ko_region0 H (by kernel_rfl) (by as_aux_lemma => kernel_rfl) (fun HR => ?_)
        repeat (first
          | ((with_reducible refine kg_call (f := 100) rfl ?_); refine ko_call 100 _ rfl (by rfl) Tryz.func100 (by kernel_rfl) rfl (by kernel_rfl) (by simp only [List.map_toArray, List.map_cons, List.map_nil]; rfl) (fun W hC hd => WIn_calls _ _ _ _ _ _ (by first | exact depH.hd hd (by kernel_rfl) | exact depH.hd (depH.tl hd) (by kernel_rfl))) ?_; (try simp only [Act.put, lsA, lsZ, lsS, Nat.reduceAdd]))
            | ((with_reducible refine kg_dst (N := 40) rfl ?_); refine ko_cell rfl (by rfl) (by rfl) Tryz.underlying3 rfl (fun W hC => HPV.out W (HR W hC).now) ?_; (try simp only [Act.put, lsA, lsZ, lsS, Nat.reduceAdd]))
          | ((with_reducible refine kg_load (ty := 3) rfl ?_); refine ko_get HR rfl (by rfl) (by rfl) (by repeat (first | exact At.head | apply At.tail)) Tryz.underlying3 rfl (by simp only [List.getElem?_toArray, List.getElem?_cons_succ, List.getElem?_cons_zero]; rfl) ?_; (try simp only [Act.put, lsA, lsZ, lsS, Nat.reduceAdd]))
          | ((with_reducible refine kg_dst (N := 18) rfl ?_); refine ko_row rfl (by rfl) (fun W K hK => by go_simp; exact hK.out) ?_; intro x18; (try simp only [Act.put, lsA, lsZ, lsS, Nat.reduceAdd]))
          | ((with_reducible refine kg_dst (N := 25) rfl ?_); refine ko_row rfl (by rfl) (fun W K hK => by go_simp; exact hK.out) ?_; intro x25; (try simp only [Act.put, lsA, lsZ, lsS, Nat.reduceAdd]))
          | (refine ko_pure rfl (by rfl) (fun W K hK => by go_simp; exact hK.out) ?_; (try simp only [Act.put, lsA, lsZ, lsS, Nat.reduceAdd]))
          | (refine ko_off (by rfl) ?_; (try simp only [Act.put, lsA, lsZ, lsS, Nat.reduceAdd])))
        refine ko_end ?_
        intro w1 H1
        clear HR H
        have H := H1
        clear H1
        (try simp only [List.map_cons, List.map_nil, cv, List.cons_append, List.nil_append] at H)
        go_wp2_with (first
          | ((with_reducible refine gate_dst (N := 12) rfl ?_); refine fr_sub H (n := 2) rfl rfl rfl (by repeat (first | exact At.head | apply At.tail)) Tryz.underlying58 rfl (by kernel_rfl) (by simp only [List.toList_toArray, List.drop_succ_cons, List.drop_zero, List.take_succ_cons, List.take_zero]; rfl) (by rfl) ?_)
          | ((with_reducible refine gate_dst (N := 5) rfl ?_); refine fr_new H (N := 5) rfl rfl (cs := #[.int .i64 0, .int .i64 0]) (t := 58) ?hr ?_; (case hr => first | (go_simp; done) | (go_simp; rfl)); intro g5 w5 H1; replace H := H1; clear H1)
          | ((with_reducible refine gate_store (t := 58) (p := 5) rfl ?_); refine fr_put H rfl rfl rfl rfl rfl (by repeat (first | exact At.head | apply At.tail)) (by rfl) (by kernel_rfl) (by simp [Value.oneCell']) ?_; intro w5_ H1; replace H := H1; clear H1)
          | ((with_reducible refine gate_dst (N := 60) rfl ?_); refine fr_get H rfl rfl rfl (by repeat (first | exact At.head | apply At.tail)) Tryz.underlying3 rfl (by simp only [List.getElem?_toArray, List.getElem?_cons_succ, List.getElem?_cons_zero]; rfl) ?_)
          | fail)
      any_goals
        have HF : Hid (r = false) := Lib.hid (by have := HS2.out; simpa using this.symm)
        go_ret
        exact ⟨(by rw [HF.out]; try rfl), H.below⟩
      all_goals
        have HSN : Hid (tbI (k + 1) x0 x1 (l.drop (k + 1)) = r) := Lib.hid (by have := HS2.out; simpa using this)
        go_roundw
        case rel =>
          refine ⟨k + 1, x0, x1, by omega, ?_, rfl, HSN, by omega, by omega, by omega, by omega, Lib.hid (fun _ => by simpa using HX.out), (H.drop).imp (fun _ h => h)⟩
          rw [← HKI.out]
          rfl
        case measure => rw [← HKI.out]; simp [intOf]; omega
    · obtain rfl : k = n := by omega
      have HT := Lib.hid (show r = true by rw [← HS.out, List.drop_eq_nil_of_le (by rw [HN.out]; exact Nat.le_refl _)]; rfl)
      go_wp2
      go_ret
      exact ⟨(by rw [HT.out]; try rfl), H.below⟩
end Go.Proofs.YtbmfgcekglgliaaGreat.G

namespace Go.Proofs.YtbmfgcekglgliaaGreat.G
open Go.RowKit Go.Proofs.YtbmfgcekglgliaaGreatW.PrintWords Go.Proofs.YtbmfgcekglgliaaGreatW.PrintLast Go.Proofs.YtbmfgcekglgliaaGreatW.PrintMore Go.Proofs.YtbmfgcekglgliaaGreatPl Go.Proofs.YtbmfgcekglgliaaGreatEm Go.Proofs.YtbmfgcekglgliaaGreatKr Go.Proofs.YtbmfgcekglgliaaGreat.X
set_option linter.unusedVariables false
set_option linter.unusedSimpArgs false
def whole (x : Lp) : Bool := (wrap64 (x.f0 - x.f1)).tmod 86400 == 0
def gd (l : List Lp) : Bool := tb l && l.all whole
theorem leap_row {w0 w : World} {A : Option Addr} {xs : List Lp} (h : Kd.C k58 w0 A xs.length xs) (hb : Below w0.heap.size w0 w) (k : Nat) (hk : k < xs.length) :
    ∃ ad, A = some ad ∧ ∀ j u, [Value.int .i64 xs[k].f0, .int .i64 xs[k].f1][j]? = some u → w.cell? ((ad.add (k * 2)).add j) = some u :=
  leap_at (Kd.C_below h hb) k hk
set_option maxRecDepth 100000 in
set_option maxHeartbeats 1000000 in
theorem day_calls (w : World) (x0 x1 : Int) : Calls Tryz.prog 87 #[.agg #[.int .i64 x0, .int .i64 x1]] w fun e w' => e = .returned (.bool (!whole ⟨x0, x1⟩)) ∧ Hid (Below w.heap.size w w') := by
  go_enter Tryz.func87, Tryz.ntmps87
  go_wp2
  go_ret
  exact ⟨rfl, Lib.hid (below_alloc (Below.refl _ _) _)⟩
theorem leap_row' {w0 w : World} {A : Option Addr} {xs : List Lp} (h : Kd.C k58 w0 A xs.length xs) (hb : Below w0.heap.size w0 w) (k : Nat) (hk : k < xs.length) (x0 x1 : Int) (e0 : xs[k].f0 = x0) (e1 : xs[k].f1 = x1) :
    ∃ ad, A = some ad ∧ Hid (∀ j u, [Value.int .i64 x0, .int .i64 x1][j]? = some u → w.cell? ((ad.add (k * 2)).add j) = some u) := by
  obtain ⟨ad, e, hx⟩ := leap_row h hb k hk
  rw [e0, e1] at hx
  exact ⟨ad, e, Lib.hid hx⟩
set_option maxRecDepth 100000 in
set_option maxHeartbeats 4000000 in
theorem IndexDay_calls (A : Option Addr) (c : Nat) (l : List Lp) (w : World) (hr : Kd.C k58 w A l.length l) :
    Calls Tryz.prog 101 #[.slice A l.length c, .func (.func 87) #[] #[]] w fun e w' => ∃ i : Int, e = .returned (.int .i64 i) ∧ Hid (decide (0 ≤ i) = !(l.all whole)) ∧ Hid (Below w.heap.size w w') := by
  have R := Lib.hid hr
  have hl : l.length ≤ 9223372036854775807 := hr.2.1
  obtain ⟨n, hn⟩ : ∃ n, l.length = n := ⟨_, rfl⟩
  have HN := Lib.hid hn
  rw [hn] at hl ⊢
  clear hr hn
  go_enter Tryz.func101, Tryz.ntmps101
  go_wp2
  go_loopw [8] (fun v8 wr => ∃ k : Nat, k ≤ n ∧ v8 = .int .i64 k ∧ Hid (∀ x ∈ l.take k, whole x = true) ∧ Hid (Below w.heap.size w wr)) (fun v8 _ => n - (intOf v8).toNat)
  case atStart => exact ⟨0, by omega, rfl, Lib.hid (fun x hx => by simp at hx), Lib.hid (Below.refl _ _)⟩
  case round =>
    obtain ⟨k, hk, rfl, HQ, HB⟩ := hrel
    by_cases hlt : k < n
    · have hkl : k < l.length := by rw [HN.out]; exact hlt
      have hk1 : (k : Int) < (n : Int) := by omega
      have hs1 : -9223372036854775808 ≤ (k : Int) + 1 := by omega
      have hs2 : (k : Int) + 1 ≤ 9223372036854775807 := by omega
      obtain ⟨x, hx⟩ : ∃ x, l[k] = x := ⟨_, rfl⟩
      obtain ⟨ad, e, HC⟩ := leap_row' R.out HB.out k hkl x.f0 x.f1 (by rw [hx]) (by rw [hx])
      cases e
      have HX : Hid (l.take (k + 1) = l.take k ++ [x]) := Lib.hid (by rw [List.take_succ_eq_append_getElem hkl, hx])
      have HM : Hid (x ∈ l) := Lib.hid (hx ▸ List.getElem_mem hkl)
      obtain ⟨b, hb⟩ : ∃ b, whole x = b := ⟨_, rfl⟩
      have HB2 := Lib.hid hb
      have HD : Hid (∀ W, Calls Tryz.prog 87 #[.agg #[.int .i64 x.f0, .int .i64 x.f1]] W fun e w' => e = .returned (.bool (!b)) ∧ Hid (Below W.heap.size W w')) := Lib.hid (fun W => hb ▸ day_calls W x.f0 x.f1)
      generalize x.f0 = x0 at HC HD
      generalize x.f1 = x1 at HC HD
      clear hx hb
      cases b with
      | true =>
        go_wp2_with (first
          | ((with_reducible refine gate_dst (N := 15) rfl ?_); refine load_cells rfl rfl (ad := ad.add (k * 2)) (cs := [.int .i64 x0, .int .i64 x1]) ?hx Tryz.underlying58 rfl (by kernel_rfl) HC.out ?_; (case hx => first | rfl | (go_simp; done) | (go_simp; rfl))))
        refine (HD.out _).mono ?_
        rintro e w' ⟨rfl, hb⟩
        go_wp2
        go_roundw
        case rel => exact ⟨k + 1, by omega, by simp, Lib.hid (fun y hy => by
          rw [HX.out] at hy
          rcases List.mem_append.1 hy with hy | hy
          · exact HQ.out y hy
          · rw [List.mem_singleton.1 hy]; exact HB2.out), Lib.hid (HB.out.trans (hb.out.mono HB.out.size))⟩
        case measure => simp [intOf]; omega
      | false =>
        go_wp2_with (first
          | ((with_reducible refine gate_dst (N := 15) rfl ?_); refine load_cells rfl rfl (ad := ad.add (k * 2)) (cs := [.int .i64 x0, .int .i64 x1]) ?hx Tryz.underlying58 rfl (by kernel_rfl) HC.out ?_; (case hx => first | rfl | (go_simp; done) | (go_simp; rfl))))
        refine (HD.out _).mono ?_
        rintro e w' ⟨rfl, hb⟩
        go_wp2
        go_ret
        refine ⟨_, rfl, Lib.hid ?_, Lib.hid (HB.out.trans (hb.out.mono HB.out.size))⟩
        have : l.all whole = false := by
          cases h : l.all whole with
          | false => rfl
          | true =>
            have := List.all_eq_true.1 h x HM.out
            rw [HB2.out] at this
            cases this
        rw [this]
        exact decide_eq_true (Int.natCast_nonneg k)
    · obtain rfl : k = n := by omega
      go_wp2
      go_ret
      refine ⟨_, rfl, Lib.hid ?_, HB⟩
      have : l.all whole = true := List.all_eq_true.2 (fun x hx => HQ.out x (by rw [List.take_of_length_le (by rw [HN.out]; exact Nat.le_refl _)]; exact hx))
      rw [this]
      rfl
set_option maxRecDepth 100000 in
set_option maxHeartbeats 4000000 in
theorem Contains_calls (A : Option Addr) (c : Nat) (l : List Lp) (w : World) (hr : Kd.C k58 w A l.length l) :
    Calls Tryz.prog 86 #[.slice A l.length c, .func (.func 87) #[] #[]] w fun e w' => e = .returned (.bool (!(l.all whole))) ∧ Hid (Below w.heap.size w w') := by
  have HI := Lib.hid (IndexDay_calls A c l w hr)
  obtain ⟨n, hn⟩ : ∃ n, l.length = n := ⟨_, rfl⟩
  rw [hn] at HI ⊢
  clear hr hn
  go_enter Tryz.func86, Tryz.ntmps86
  go_wp2_with (go_at_call 101; refine HI.out.mono ?_; rintro e w1 ⟨i, rfl, H1, HB⟩)
  go_ret
  exact ⟨by rw [← H1.out]; first | done | rfl, HB⟩
set_option maxRecDepth 100000 in
set_option maxHeartbeats 4000000 in
theorem Good_calls (A : Option Addr) (c : Nat) (l : List Lp) (w : World) (hr : Kd.C k58 w A l.length l) :
    Calls Tryz.prog 53 #[.slice A l.length c] w fun e w' => e = .returned (.bool (gd l)) ∧ Below w.heap.size w w' := by
  have HT := Lib.hid (Table_calls A c l w hr)
  have HC := Lib.hid (fun W (hb : Below w.heap.size w W) => Contains_calls A c l W (Kd.C_below hr hb))
  obtain ⟨n, hn⟩ : ∃ n, l.length = n := ⟨_, rfl⟩
  rw [hn] at HT HC ⊢
  obtain ⟨b, hb⟩ : ∃ b, tb l = b := ⟨_, rfl⟩
  obtain ⟨d, hd⟩ : ∃ d, l.all whole = d := ⟨_, rfl⟩
  have hg : gd l = (b && d) := by unfold gd; rw [hb, hd]
  rw [hb] at HT
  rw [hd] at HC
  rw [hg]
  clear hr hn hb hd hg
  cases b with
  | true =>
    go_enter Tryz.func53, Tryz.ntmps53
    go_wp2_with (first
      | (go_at_call 85; refine HT.out.mono ?_; rintro e w1 ⟨rfl, HB⟩; have HB := Lib.hid HB)
      | (go_at_call 86; refine (HC.out _ HB.out).mono ?_; rintro e w2 ⟨rfl, HB2⟩))
    go_ret
    exact ⟨by simp, HB.out.trans (HB2.out.mono HB.out.size)⟩
  | false =>
    go_enter Tryz.func53, Tryz.ntmps53
    go_wp2_with (go_at_call 85; refine HT.out.mono ?_; rintro e w1 ⟨rfl, HB⟩; have HB := Lib.hid HB)
    go_ret
    exact ⟨rfl, HB.out⟩
def flL (l : List Lp) : List Value := l.flatMap (fun x => [.int .i64 x.f0, .int .i64 x.f1])
theorem flL_length : ∀ l : List Lp, (flL l).length = l.length * 2
  | [] => rfl
  | x :: l => by
    show (.int .i64 x.f0 :: .int .i64 x.f1 :: flL l : List Value).length = _
    rw [List.length_cons, List.length_cons, flL_length l, List.length_cons]; omega
theorem flL_get : ∀ (l : List Lp) (j : Nat) (u : Value), (flL l)[j]? = some u → ∃ (k i : Nat) (hk : k < l.length), j = k * 2 + i ∧ [Value.int .i64 l[k].f0, .int .i64 l[k].f1][i]? = some u
  | [], j, u, h => by simp [flL] at h
  | x :: l, 0, u, h => ⟨0, 0, by simp, rfl, h⟩
  | x :: l, 1, u, h => ⟨0, 1, by simp, rfl, h⟩
  | x :: l, j + 2, u, h => by
    obtain ⟨k, i, hk, e, hu⟩ := flL_get l j u h
    exact ⟨k + 1, i, by simp; omega, by omega, hu⟩
theorem flL_one : ∀ (l : List Lp), ∀ u ∈ flL l, u.oneCell' = true := by
  intro l u hu
  unfold flL at hu
  rw [List.mem_flatMap] at hu
  obtain ⟨x, _, hx⟩ := hu
  simp at hx
  rcases hx with rfl | rfl <;> rfl
theorem cellsL {w : World} {ad : Addr} {l : List Lp} (h : Kd.C k58 w (some ad) l.length l) : ∀ j u, (flL l)[j]? = some u → w.cell? (ad.add j) = some u := by
  intro j u hu
  obtain ⟨k, i, hk, rfl, hi⟩ := flL_get l j u hu
  obtain ⟨ad', e, hx⟩ := leap_row h (Below.refl _ _) k hk
  cases e
  rw [← add_add]
  exact hx i u hi
theorem infoL : (Tryz.prog.info? 58).map (fun i => (i.zero, i.size, i.bytes)) = some (some (.agg #[.int .i64 0, .int .i64 0]), 2, 16) := by kernel_rfl
set_option maxRecDepth 100000 in
set_option maxHeartbeats 4000000 in
theorem Clone_calls (A : Option Addr) (c : Nat) (l : List Lp) (w : World) (hr : Kd.C k58 w A l.length l) (hl : l.length ≤ 4096) :
    Calls Tryz.prog 45 #[.slice A l.length c] w fun e w' => ∃ u, e = .returned u ∧ w'.ownsRow w.heap.size 58 2 u l.length (flL l) ∧ Below w.heap.size w w' := by
  obtain ⟨i0, hi0, hz0, hz1, hz2⟩ := info_parts infoL
  cases A with
  | none =>
    have h0 : l = [] := by
      cases l with
      | nil => rfl
      | cons x r =>
        obtain ⟨ad, e, _⟩ := leap_row hr (Below.refl _ _) 0 (by simp)
        cases e
    subst h0
    have hq : ∀ w, (binOp .eql 26 (.slice none 0 c) (.slice none 0 0)).run Tryz.prog w = .ok (.bool true) w := fun w => by rw [Lib.run_eql_slice_nil w 26 58 none 0 c 0 0 Tryz.underlying26]; rfl
    go_enter Tryz.func45, Tryz.ntmps45
    go_wp2
    go_ret
    exact ⟨_, rfl, World.ownsRow_nil _ _ _ _, Below.refl _ _⟩
  | some ad =>
    have HC := Lib.hid (cellsL hr)
    have HL := Lib.hid (flL_length l)
    have HO := Lib.hid (flL_one l)
    obtain ⟨n, hn⟩ : ∃ n, l.length = n := ⟨_, rfl⟩
    rw [hn] at HL hl ⊢
    clear hr hn
    generalize flL l = news at HC HL HO ⊢
    have hq : ∀ w, (binOp .eql 26 (.slice (some ad) n c) (.slice none 0 0)).run Tryz.prog w = .ok (.bool false) w := fun w => by rw [Lib.run_eql_slice_nil w 26 58 (some ad) n c 0 0 Tryz.underlying26]; rfl
    go_enter Tryz.func45, Tryz.ntmps45
    go_wp2_with (first
      | (at_builtin; refine wpList_append_own_at _ rfl _ _ 26 rfl w.heap.size 58 i0 (.agg #[.int .i64 0, .int .i64 0]) 2 16 Tryz.underlying26 hi0 hz0 hz1 hz2 rfl (by decide) (.slice (some ⟨w.heap.size, 0, none⟩) 0 0) 0 [] rfl ?ho ad n c news rfl HL.out ?hn HO.out (by unfold maxLen; omega) (by omega) (by simp) ?_; (case ho => exact ⟨by simp, .inr ⟨_, 0, #[], rfl, Nat.le_refl _, blk_new w _, Nat.le_refl _, by unfold maxLen; omega, rfl, rfl⟩⟩); (case hn => exact fun j u hu => pw_cell_below (below_alloc (Below.refl _ _) _) (HC.out j u hu)); intro u' w1 hown' hgrow hnil hat))
    go_ret
    refine ⟨u', rfl, ?_, ?_⟩
    · rw [Nat.zero_add, List.nil_append] at hown'
      exact hown'
    · exact (below_alloc (Below.refl _ _) _).grown hgrow (by simp) (fun k hk => by injection hk with hk; change w.heap.size = k at hk; omega)
end Go.Proofs.YtbmfgcekglgliaaGreat.G

namespace Go.Proofs.YtbmfgcekglgliaaGreatRz
open Go.RowKit Go.Proofs.YtbmfgcekglgliaaGreatW.PrintWords Go.Proofs.YtbmfgcekglgliaaGreatW.PrintLast Go.Proofs.YtbmfgcekglgliaaGreatW.PrintMore
open Go.Proofs.YtbmfgcekglgliaaGreatEm (Fr Chg At Of Tr Keep Frs)
set_option linter.unusedVariables false
def mk (n : Nat) : List Nat → Array Bool
  | [] => Array.replicate n false
  | i :: l => (mk n l).setIfInBounds i true
section
variable {P : Program} {ops : Array Oper} {Q : Exit → Act → World → Prop} {md : Region.Mode} {S : World → Prop} {ds : List Nat}
def Reads (P : Program) (ops : Array Oper) (S : World → Prop) (o : Oper) (v : Value) (a : Act) : Prop :=
  Region.wanted o (yielded ops a.tmps) = true ∧ ∀ w, S w → ∃ f args, (execOp a.eval o).run P w = .ok (.enter f args) w ∧ Calls P f args w fun e w' => e = .returned v ∧ w' = w
theorem Reads.wpOp {i : Nat} {o : Oper} {v : Value} {a : Act} (hi : ops[i]? = some o) (hy : Reads P ops S o v a) {K : Act → World → Prop} {w : World} (hS : S w) (h : K (a.put o.dst v) w) : wpOp P ops Q i K a w := by
  unfold Go.wpOp
  obtain ⟨hw, hy⟩ := hy
  obtain ⟨f, args, hr, hc⟩ := hy w hS
  simp only [hi, hw, if_true]
  refine .inl ?_
  unfold Oper.wp
  rw [hr, Oper.upon_enter]
  refine hc.mono fun e w' he => ?_
  obtain ⟨rfl, rfl⟩ := he
  exact h
theorem Reads.same {o : Oper} {v : Value} {a a' : Act} (hy : Reads P ops S o v a) (he : execOp a'.eval o = execOp a.eval o) (hw : Region.wanted o (yielded ops a'.tmps) = Region.wanted o (yielded ops a.tmps)) : Reads P ops S o v a' := by
  unfold Reads at *
  rw [he, hw]
  exact hy
theorem wpOp_reads {j : Nat} {oi oj : Oper} {v : Value} (hj : ops[j]? = some oj) (hap : oi.apart ops oj = true) (hsi : ∀ cs b, oi.op ≠ .select cs b) (hsj : ∀ cs b, oj.op ≠ .select cs b)
    (hQ : ∀ c a w, Q (.panic c) (a.put oi.dst v) w → Q (.panic c) a w) {K : Act → World → Prop} {a : Act} {w : World} (hy : Reads P ops S oi v a) (h : wpOp P ops Q j K (a.put oi.dst v) w) :
    wpOp P ops Q j (fun a' w' => Reads P ops S oi v a' ∧ K (a'.put oi.dst v) w') a w := by
  obtain ⟨h1, h2, h3⟩ := Oper.apart_spec hap
  have hk : ∀ (b : Act), Reads P ops S oi v b → ∀ u, Reads P ops S oi v (b.put oj.dst u) := fun b hb u => hb.same (execOp_put oi hsi b oj.dst u h3) (wanted_put oi b oj.dst u h3)
  have hkd : ∀ d, Reads P ops S oi v { a with defers := d :: a.defers } := fun d => hy.same rfl rfl
  unfold wpOp at *
  simp only [hj] at *
  rw [wanted_put oj a oi.dst v h1] at h
  by_cases hw : Region.wanted oj (yielded ops a.tmps) = true
  · rw [if_pos hw] at h ⊢
    rcases h with h | ⟨q1, q2⟩
    · refine .inl ?_
      unfold Oper.wp at *
      rw [execOp_put oj hsj a oi.dst v h1] at h
      cases hr : (execOp a.eval oj).run P w with
      | ok n w' =>
        rw [hr] at h
        cases n <;> simp only [Oper.upon] at h ⊢
        case value u => rw [Act.put_comm a v u h2] at h; exact ⟨hk a hy u, h⟩
        case skip => rw [Act.put_comm a v undef h2] at h; exact ⟨hk a hy _, h⟩
        case defer d =>
          refine ⟨hk _ (hkd d) _, ?_⟩
          rw [← Act.put_comm _ v undef h2, ← Act.put_defers]
          exact h
        case enter f args =>
          refine Calls.mono h fun e w'' he => ?_
          cases e with
          | returned u => exact ⟨hk a hy u, (Act.put_comm a v u h2) ▸ he⟩
          | panicked c => exact hQ _ _ _ he
          | outgrown => exact he
        case row row args => exact Rows.mono h fun u w'' he => ⟨hk a hy u, (Act.put_comm a v u h2) ▸ he⟩
      | halt x w' =>
        rw [hr] at h
        cases x <;> simp only [Oper.upon] at h ⊢
        case panic u => exact hQ _ _ _ h
    · exact .inr ⟨by unfold Oper.asks at *; rw [execOp_put oj hsj a oi.dst v h1] at q1; exact q1, q2⟩
  · rw [if_neg hw] at h ⊢
    rw [Act.put_comm a v undef h2] at h
    exact ⟨hk a hy _, h⟩
theorem first_reads {i : Nat} {oi : Oper} {v : Value} (hi : ops[i]? = some oi) (hsel : ∀ (j : Nat) (o : Oper) cs b, ops[j]? = some o → o.op ≠ .select cs b) (hQ : ∀ c a w, Q (.panic c) (a.put oi.dst v) w → Q (.panic c) a w) (n : Nat) :
    ∀ (fuel : Nat) (listed : Array Bool) (a : Act) (w : World),
      (∀ j oj, ops[j]? = some oj → j ≠ i → listed.getD j true = false → (∀ e ∈ oj.after, Region.binds md e = true → e.on ≠ i) → oi.apart ops oj = true) →
      ListedClosed md ops listed → (∀ d ∈ ds, listed.getD d true = false → Region.reachB md ops i n d = true) →
      i ∈ Region.ready md ops listed → Reads P ops S oi v a → S w →
      wpAnyLast P md ops Q S ds fuel (listed.setIfInBounds i true) (a.put oi.dst v) w → wpAnyLast P md ops Q S ds (fuel + 1) listed a w := by
  intro fuel
  induction fuel with
  | zero =>
    intro listed a w _ _ _ hr hy hS H
    refine ⟨fun h => (by rw [h] at hr; cases hr), fun j hj => ?_⟩
    by_cases hji : j = i
    · subst hji; exact hy.wpOp hi hS ⟨fun _ h => h, H⟩
    · have := ready_mono hj hji
      rw [H.1] at this
      cases this
  | succ fuel ih =>
    intro listed a w hfree hc hd hr hy hS H
    refine ⟨fun h => (by rw [h] at hr; cases hr), fun j hj => ?_⟩
    by_cases hji : j = i
    · subst hji; exact hy.wpOp hi hS ⟨fun _ h => h, H⟩
    · have h1 := H.2 j (ready_mono hj hji)
      obtain ⟨hjun, oj, hoj, hall⟩ := mem_ready.1 hj
      have hiun := (mem_ready.1 hr).1
      have hnot : ∀ e ∈ oj.after, Region.binds md e = true → e.on ≠ i := fun e he hb heq => by
        have h1 := hall e he hb
        rw [heq] at h1
        rcases Nat.lt_or_ge i listed.size with h' | h'
        · simp [h'] at hiun h1; rw [hiun] at h1; cases h1
        · simp [Array.getElem?_eq_none h'] at h1
      have hjd : j ∉ ds := fun hm => Region.reach_not_ready hc (hd j hm hjun) hiun hj
      have h2 := wpOp_reads hoj (hfree j oj hoj hji hjun hnot) (fun cs b => hsel i oi cs b hi) (fun cs b => hsel j oj cs b hoj) hQ hy h1
      have hne : ∀ k, (listed.setIfInBounds j true).getD k true = false → listed.getD k true = false := fun k hun => by
        by_cases hjk : j = k
        · subst hjk; exact hjun
        · rw [getD_set_ne true hjk] at hun; exact hun
      refine wpOp_mono (fun a' w' h3 => ⟨h3.2.1, ih (listed.setIfInBounds j true) a' w' (fun k ok hk hki hun => hfree k ok hk hki (hne k hun)) (hc.set hj) (fun d hm hun => hd d hm (hne d hun)) (ready_mono hr (Ne.symm hji)) h3.1 (h3.2.1 hjd hS) ?_⟩) h2
      rw [Array.setIfInBounds_comm _ _ hji]
      exact h3.2.2
end
section
variable {P : Program} {ops : Array Oper} {Q : Exit → Act → World → Prop} {S : World → Prop} {ds : List Nat} {n i : Nat} {dn : List Nat} {a : Act} {w : World} {o : Oper} {rest : List (Nat × Oper)} {v : Value}
def RO (P : Program) (ops : Array Oper) (Q : Exit → Act → World → Prop) (S : World → Prop) (ds : List Nat) (n : Nat) (dn : List Nat) (rest : List (Nat × Oper)) (a : Act) (w : World) : Prop :=
  (∀ x ∈ rest, ops[x.1]? = some x.2) → wpAnyLast P .any ops Q S ds rest.length (mk n dn) a w
theorem ro_hd (e : ∀ x ∈ (i, o) :: rest, ops[x.1]? = some x.2) : ops[i]? = some o := e _ List.mem_cons_self
theorem ro_tl {x : Nat × Oper} (e : ∀ y ∈ x :: rest, ops[y.1]? = some y.2) : ∀ y ∈ rest, ops[y.1]? = some y.2 := fun y hy => e y (List.mem_cons_of_mem _ hy)
def pickR (l : List Oper) : List Nat → List (Nat × Oper)
  | [] => []
  | i :: r => match l[i]? with
    | some o => (i, o) :: pickR l r
    | none => pickR l r
theorem pickR_mem {l : List Oper} : ∀ {r : List Nat} {x : Nat × Oper}, x ∈ pickR l r → l[x.1]? = some x.2 := by
  intro r
  induction r with
  | nil => intro x h; cases h
  | cons i r ih =>
    intro x h
    cases ho : l[i]? with
    | none =>
      rw [pickR, ho] at h
      exact ih h
    | some o =>
      rw [pickR, ho] at h
      rcases List.mem_cons.1 h with rfl | h
      · exact ho
      · exact ih h
theorem ro_start (S : World → Prop) (ds ord : List Nat) (n : Nat) {id : Nat} {l : List Oper} (hm : P.follows .mixedOrders = true) (hn : l.length = n) (hr : pickR l ord = rest) (hl : rest.length = n) (hS : S w.drew) (h : S w.drew → RO P l.toArray Q S ds n [] rest a w.drew) : (Code.region id l.toArray true).wp P Q a w := by
  refine start_ (ds := ds) (mk n []) hm (by simpa using hn) rfl hS (fun h1 => ?_)
  have := h h1 (fun x hx => by subst hr; simpa using pickR_mem hx)
  rw [hl] at this
  exact this
theorem ro_pure (hc : anyB .any ops (mk n dn) (mk n (i :: dn)) i = true) (hQ : ∀ c a w, Q (.panic c) (a.put o.dst v) w → Q (.panic c) a w)
    (hw : Region.wanted o (yielded ops a.tmps) = true) (hy : ∀ w (K : Result Next → Prop), Hid (K (.ok (.value v) w)) → K ((execOp a.eval o).run P w)) (h : RO P ops Q S ds n (i :: dn) rest (a.put o.dst v) w) : RO P ops Q S ds n dn ((i, o) :: rest) a w :=
  fun e => pure_ (mk n (i :: dn)) (ro_hd e) rfl hc hQ (.inl ⟨hw, fun w => hy w (fun r => r = .ok (.value v) w) (Lib.hid rfl)⟩) rfl (h (ro_tl e))
theorem ro_off (hc : anyB .any ops (mk n dn) (mk n (i :: dn)) i = true) (hQ : ∀ c a w, Q (.panic c) (a.put o.dst undef) w → Q (.panic c) a w)
    (hw : Region.wanted o (yielded ops a.tmps) = false) (h : RO P ops Q S ds n (i :: dn) rest (a.put o.dst undef) w) : RO P ops Q S ds n dn ((i, o) :: rest) a w :=
  fun e => pure_ (mk n (i :: dn)) (ro_hd e) rfl hc hQ (.inr ⟨hw, rfl⟩) rfl (h (ro_tl e))
theorem ro_take (hc : takeB .any ops ds (mk n dn) (mk n (i :: dn)) i = true) (hQ : ∀ c a w, Q (.panic c) (a.put o.dst v) w → Q (.panic c) a w)
    (hw : Region.wanted o (yielded ops a.tmps) = true) (hS : S w) (hy : ∀ w, S w → (execOp a.eval o).run P w = .ok (.value v) w) (h : RO P ops Q S ds n (i :: dn) rest (a.put o.dst v) w) : RO P ops Q S ds n dn ((i, o) :: rest) a w :=
  fun e => take_ (mk n (i :: dn)) (ro_hd e) rfl hc hQ (.inl ⟨hw, hy⟩) hS rfl (h (ro_tl e))
theorem ro_quiet (f : FuncId) (args : Array Value) {fn : Func} {as_ : Array Operand} {ts : Array TypeId} (hop : o.op = .call { callee := .value (.func f), args := as_, argTypes := ts }) (hc : takeB .any ops ds (mk n dn) (mk n (i :: dn)) i = true) (hQ : ∀ c a w, Q (.panic c) (a.put o.dst v) w → Q (.panic c) a w)
    (hw : Region.wanted o (yielded ops a.tmps) = true) (hf : P.funcs[f]? = some fn) (hname : (fn.name == "runtime.NumGoroutine") = false) (hb : fn.body.isSome = true) (hargs : as_.map a.eval = args) (hS : S w)
    (hcall : ∀ w, S w → Calls P f args w fun e w' => e = .returned v ∧ w' = w) (h : RO P ops Q S ds n (i :: dn) rest (a.put o.dst v) w) : RO P ops Q S ds n dn ((i, o) :: rest) a w := fun e => by
  have hy : Reads P ops S o v a := ⟨hw, fun w hS => ⟨f, args, by
    have he := enters_ hf hname hb args w
    unfold execOp
    simp [hop, resolve, Deferred.ofValue, invoke, Act.eval, hargs, he], hcall w hS⟩⟩
  simp only [takeB, Bool.and_eq_true, beq_iff_eq] at hc
  obtain ⟨⟨⟨⟨⟨h1, h2⟩, h3⟩, h4⟩, h5⟩, h6⟩ := hc
  have hh := h (ro_tl e)
  rw [← h6] at hh
  exact first_reads (ro_hd e) (Region.noSelect_spec h1) hQ ops.size rest.length (mk n dn) a w (Region.free_spec (ro_hd e) h2) (Region.closedB_spec h4) (fun d hm hun => by have := List.all_eq_true.1 h5 d hm; rw [hun] at this; simpa using this) (by simpa using h3) hy hS hh
theorem ro_one (hc : readyB .any ops (mk n dn) (mk n (i :: dn)) i = true) (hd : ds.contains i = false)
    (hw : Region.wanted o (yielded ops a.tmps) = true) (h : ∀ K : Act → World → Prop, (∀ a' w', S w' → (S w' → RO P ops Q S ds n (i :: dn) rest a' w') → K a' w') → Oper.wp P o a w K Q) : RO P ops Q S ds n dn ((i, o) :: rest) a w :=
  fun e => one_ (mk n (i :: dn)) (ro_hd e) rfl hc (by simpa using hd) (fun K hK => by
    rw [if_pos hw]
    exact h K (fun a' w' h1 h2 => hK _ _ h1 (fun h3 => h2 h3 (ro_tl e))))
theorem ro_last (hc : readyB .any ops (mk n dn) (mk n (i :: dn)) i = true) (hd : ds.contains i = true)
    (hw : Region.wanted o (yielded ops a.tmps) = true) (h : ∀ K : Act → World → Prop, (∀ a' w', RO P ops Q S ds n (i :: dn) rest a' w' → K a' w') → Oper.wp P o a w K Q) : RO P ops Q S ds n dn ((i, o) :: rest) a w :=
  fun e => last_ (mk n (i :: dn)) (ro_hd e) rfl hc (by simpa using hd) (fun K hK => by
    rw [if_pos hw]
    exact h K (fun a' w' h1 => hK _ _ (h1 (ro_tl e))))
theorem wp_enter (f : FuncId) (args : Array Value) {fn : Func} {as_ : Array Operand} {ts : Array TypeId} (hop : o.op = .call { callee := .value (.func f), args := as_, argTypes := ts }) (hf : P.funcs[f]? = some fn) (hname : (fn.name == "runtime.NumGoroutine") = false) (hb : fn.body.isSome = true) (hargs : as_.map a.eval = args) {K : Act → World → Prop}
    (h : Calls P f args w fun e w' => ∃ v, e = .returned v ∧ K (a.put o.dst v) w') : Oper.wp P o a w K Q := by
  have he := enters_ hf hname hb args w
  have hrun : (execOp a.eval o).run P w = .ok (.enter f args) w := by
    unfold execOp
    simp [hop, resolve, Deferred.ofValue, invoke, Act.eval, hargs, he]
  unfold Oper.wp
  rw [hrun, Oper.upon_enter]
  refine h.mono fun e w'' hh => ?_
  obtain ⟨v, rfl, h1⟩ := hh
  exact h1
theorem ro_call (f : FuncId) (args : Array Value) {fn : Func} {as_ : Array Operand} {ts : Array TypeId} (hop : o.op = .call { callee := .value (.func f), args := as_, argTypes := ts }) (hc : readyB .any ops (mk n dn) (mk n (i :: dn)) i = true) (hd : ds.contains i = false)
    (hw : Region.wanted o (yielded ops a.tmps) = true) (hf : P.funcs[f]? = some fn) (hname : (fn.name == "runtime.NumGoroutine") = false) (hb : fn.body.isSome = true) (hargs : as_.map a.eval = args)
    (h : Calls P f args w fun e w' => ∃ v, e = .returned v ∧ S w' ∧ (S w' → RO P ops Q S ds n (i :: dn) rest (a.put o.dst v) w')) : RO P ops Q S ds n dn ((i, o) :: rest) a w :=
  ro_one hc hd hw fun K hK => wp_enter f args hop hf hname hb hargs (h.mono fun e w' ⟨v, h1, h2, h3⟩ => ⟨v, h1, hK _ _ h2 h3⟩)
theorem ro_callL (f : FuncId) (args : Array Value) {fn : Func} {as_ : Array Operand} {ts : Array TypeId} (hop : o.op = .call { callee := .value (.func f), args := as_, argTypes := ts }) (hc : readyB .any ops (mk n dn) (mk n (i :: dn)) i = true) (hd : ds.contains i = true)
    (hw : Region.wanted o (yielded ops a.tmps) = true) (hf : P.funcs[f]? = some fn) (hname : (fn.name == "runtime.NumGoroutine") = false) (hb : fn.body.isSome = true) (hargs : as_.map a.eval = args)
    (h : Calls P f args w fun e w' => ∃ v, e = .returned v ∧ RO P ops Q S ds n (i :: dn) rest (a.put o.dst v) w') : RO P ops Q S ds n dn ((i, o) :: rest) a w :=
  ro_last hc hd hw fun K hK => wp_enter f args hop hf hname hb hargs (h.mono fun e w' ⟨v, h1, h2⟩ => ⟨v, h1, hK _ _ h2⟩)
theorem ro_done (hr : (Region.ready .any ops (mk n dn) == []) = true) (h : Q .normal a w) : RO P ops Q S ds n dn [] a w := fun _ => done_ hr h
theorem rz_load {ty : TypeId} {x : Operand} (_ho : o.op = .load ty x) (h : RO P ops Q S ds n dn ((i, o) :: rest) a w) : RO P ops Q S ds n dn ((i, o) :: rest) a w := h
theorem rz_store {ty : TypeId} {x y : Operand} (_ho : o.op = .store ty x y) (h : RO P ops Q S ds n dn ((i, o) :: rest) a w) : RO P ops Q S ds n dn ((i, o) :: rest) a w := h
theorem rz_dst {N : Tmp} (_hd : o.dst = some N) (h : RO P ops Q S ds n dn ((i, o) :: rest) a w) : RO P ops Q S ds n dn ((i, o) :: rest) a w := h
theorem rz_call {f : FuncId} {as_ : Array Operand} {ts : Array TypeId} (_ho : o.op = .call { callee := .value (.func f), args := as_, argTypes := ts }) (h : RO P ops Q S ds n dn ((i, o) :: rest) a w) : RO P ops Q S ds n dn ((i, o) :: rest) a w := h
theorem ro_cell {ty : TypeId} {x : Operand} {ad : Addr} {d : TypeDesc} (ho : o.op = .load ty x) (hc : takeB .any ops ds (mk n dn) (mk n (i :: dn)) i = true) (hQ : ∀ c a w, Q (.panic c) (a.put o.dst v) w → Q (.panic c) a w)
    (hw : Region.wanted o (yielded ops a.tmps) = true) (hS : S w) (hx : a.eval x = .pointer (some ad)) (hu : P.underlying ty = some d) (hd : (match d with | .struct _ | .array _ _ => true | _ => false) = false) (hcc : ∀ W, S W → W.cell? ad = some v)
    (h : RO P ops Q S ds n (i :: dn) rest (a.put o.dst v) w) : RO P ops Q S ds n dn ((i, o) :: rest) a w := by
  refine ro_take hc hQ hw hS (fun W hW => ?_) h
  have hagg : (isAgg ty).run P W = .ok false W := by
    unfold isAgg
    rw [Sem.run_bind, run_underlying hu W]
    cases d <;> simp_all
  have hlv : (loadVar ty ad).run P W = .ok v W := by simp [loadVar, Sem.run_bind, hagg, hcc W hW]
  unfold execOp
  simp only [ho, hx, Instr.loadAt, Instr.sureAddr, Sem.run_bind, Sem.run_pure, Result.andThen_ok, hlv]
theorem ro_cells {ty : TypeId} {x : Operand} {ad : Addr} {d : TypeDesc} {cs : List Value} (ho : o.op = .load ty x) (hc : takeB .any ops ds (mk n dn) (mk n (i :: dn)) i = true) (hQ : ∀ c a w, Q (.panic c) (a.put o.dst (.agg cs.toArray)) w → Q (.panic c) a w)
    (hw : Region.wanted o (yielded ops a.tmps) = true) (hS : S w) (hx : a.eval x = .pointer (some ad)) (hu : P.underlying ty = some d) (hd : (match d with | .struct _ | .array _ _ => true | _ => false) = true) (hi : (P.info? ty).map (·.size) = some cs.length) (hcc : ∀ W, S W → ∀ j u, cs[j]? = some u → W.cell? (ad.add j) = some u)
    (h : RO P ops Q S ds n (i :: dn) rest (a.put o.dst (.agg cs.toArray)) w) : RO P ops Q S ds n dn ((i, o) :: rest) a w := by
  refine ro_take hc hQ hw hS (fun W hW => ?_) h
  have hl := run_loadCells_list (P := P) W ad cs (hcc W hW)
  have hagg : (isAgg ty).run P W = .ok true W := by
    unfold isAgg
    rw [Sem.run_bind, run_underlying hu W]
    cases d <;> simp_all
  obtain ⟨i, hq, hs⟩ := Option.map_eq_some_iff.1 hi
  have hlv : (loadVar ty ad).run P W = .ok (.agg cs.toArray) W := by simp [loadVar, Sem.run_bind, hagg, sizeOf, typeInfo, hq, hs, hl]
  unfold execOp
  simp only [ho, hx, Instr.loadAt, Instr.sureAddr, Sem.run_bind, Sem.run_pure, Result.andThen_ok, hlv]
end
section
variable {P : Program} {ops : Array Oper} {Q : Exit → Act → World → Prop} {ds : List Nat} {n i : Nat} {dn : List Nat} {a : Act} {W : World} {o : Oper} {rest : List (Nat × Oper)} {v : Value} {M A M0 A0 : Nat → Prop} {w w0 : World} {bl bl' bl0 : List (Nat × Obj)} {p p0 : World → Prop}
theorem ro_get (HS : Fr M A w W bl p) {ty : TypeId} {x : Operand} {g j : Nat} {e : TypeId} {cs : Array Value} {d : TypeDesc} (ho : o.op = .load ty x) (hc : takeB .any ops ds (mk n dn) (mk n (i :: dn)) i = true) (hQ : ∀ c a w, Q (.panic c) (a.put o.dst v) w → Q (.panic c) a w) (hw : Region.wanted o (yielded ops a.tmps) = true) (hx : a.eval x = .pointer (some ⟨g, j, none⟩)) (ha : At bl g (.cells cs e (0, 0)) (.cells cs e (0, 0)) bl') (hu : P.underlying ty = some d) (hd : (match d with | .struct _ | .array _ _ => true | _ => false) = false) (hcs : cs[j]? = some v)
    (h : RO P ops Q (Frs M A w bl p) ds n (i :: dn) rest (a.put o.dst v) W) : RO P ops Q (Frs M A w bl p) ds n dn ((i, o) :: rest) a W :=
  ro_cell ho hc hQ hw HS hx hu hd (fun W' (hW' : Fr M A w W' bl p) => (hW'.cell ha j).trans hcs) h
theorem ro_sub (HS : Fr M A w W bl p) {ty : TypeId} {x : Operand} {g j m : Nat} {e : TypeId} {cs : Array Value} {d : TypeDesc} {vs : List Value} (ho : o.op = .load ty x) (hc : takeB .any ops ds (mk n dn) (mk n (i :: dn)) i = true) (hQ : ∀ c a w, Q (.panic c) (a.put o.dst (.agg vs.toArray)) w → Q (.panic c) a w) (hw : Region.wanted o (yielded ops a.tmps) = true) (hx : a.eval x = .pointer (some ⟨g, j, none⟩)) (ha : At bl g (.cells cs e (0, 0)) (.cells cs e (0, 0)) bl') (hu : P.underlying ty = some d) (hd : (match d with | .struct _ | .array _ _ => true | _ => false) = true) (hi : (P.info? ty).map (·.size) = some m) (hv : (cs.toList.drop j).take m = vs) (hm : m = vs.length)
    (h : RO P ops Q (Frs M A w bl p) ds n (i :: dn) rest (a.put o.dst (.agg vs.toArray)) W) : RO P ops Q (Frs M A w bl p) ds n dn ((i, o) :: rest) a W := by
  refine ro_cells ho hc hQ hw HS hx hu hd (hm ▸ hi) (fun W' (hW' : Fr M A w W' bl p) q u hu => ?_) h
  have hi : q < m := by rw [hm]; exact (List.getElem?_eq_some_iff.1 hu).1
  rw [← hv, List.getElem?_take, if_pos hi, List.getElem?_drop] at hu
  have hc := hW'.cell ha (j + q)
  rw [show ((⟨g, j, none⟩ : Addr).add q) = ⟨g, j + q, none⟩ by
    unfold Addr.add
    split
    · rename_i h0; rw [h0]; rfl
    · rfl, hc]
  simpa using hu
theorem ro_row (H : Fr M A w W bl p) {m : Nat} {cs : Array Value} {t : TypeId} (hc : readyB .any ops (mk n dn) (mk n (i :: dn)) i = true) (hd : ds.contains i = false) (hw : Region.wanted o (yielded ops a.tmps) = true)
    (hrun : ∀ K : Result Next → Prop, Hid (K (.ok (.value (.slice (some ⟨W.heap.size, 0, none⟩) m m)) (W.alloc (.cells cs t (0, 0))))) → K ((execOp a.eval o).run P W))
    (h : ∀ g w1, w1.heap[g]? = some (.cells cs t (0, 0)) → Fr M A w w1 bl p → RO P ops Q (Frs M A w bl p) ds n (i :: dn) rest (a.put o.dst (.slice (some ⟨g, 0, none⟩) m m)) w1) : RO P ops Q (Frs M A w bl p) ds n dn ((i, o) :: rest) a W := by
  refine ro_one hc hd hw fun K hK => ?_
  have hr := hrun (fun r => r = .ok (.value (.slice (some ⟨W.heap.size, 0, none⟩) m m)) (W.alloc (.cells cs t (0, 0)))) (Lib.hid rfl)
  have hF : Fr M A w (W.alloc (.cells cs t (0, 0))) bl p := H.call (below_alloc (Below.refl _ _) _)
  unfold Oper.wp
  rw [hr]
  exact hK _ _ hF (fun _ => h _ _ (blk_new W _) hF)
theorem ro_box (H : Fr M0 A0 w0 W bl0 p0) {S : World → Prop} {t : TypeId} {x : Operand} (ho : o.op = .box t x) (hc : readyB .any ops (mk n dn) (mk n (i :: dn)) i = true) (hd : ds.contains i = true) (hw : Region.wanted o (yielded ops a.tmps) = true) {cs : Array Value} (hx : a.eval x = .agg cs)
    (h : ∀ g w1, W.heap.size ≤ g → Fr M0 A0 w0 w1 ((g, .cells cs t (0, 0)) :: bl0) p0 → RO P ops Q S ds n (i :: dn) rest (a.put o.dst (.pointer (some ⟨g, 0, none⟩))) w1) : RO P ops Q S ds n dn ((i, o) :: rest) a W := by
  refine ro_last hc hd hw fun K hK => ?_
  have hr : (execOp a.eval o).run P W = .ok (.value (.pointer (some ⟨W.heap.size, 0, none⟩))) (W.alloc (.cells cs t (0, 0))) := by
    simp [execOp, ho, Instr.box, newVar, newRow, newObj, hx]
    rfl
  unfold Oper.wp
  rw [hr]
  exact hK _ _ (h _ _ (Nat.le_refl _) (H.alloc rfl (blk_new W (.cells cs t (0, 0))) (below_alloc (Below.refl _ _) _)))
theorem ro_set (H : Fr M0 A0 w0 W bl0 p0) {S : World → Prop} {t : TypeId} {x y : Operand} (ho : o.op = .store t x y) (hN : o.dst = none) (hc : readyB .any ops (mk n dn) (mk n (i :: dn)) i = true) (hd : ds.contains i = true) (hw : Region.wanted o (yielded ops a.tmps) = true) {g j : Nat} {e : TypeId} {old cs : Array Value} {u : Value}
    (hp : a.eval x = .pointer (some ⟨g, j, none⟩)) (hv : a.eval y = u) (ha : At bl0 g (.cells old e (0, 0)) (.cells cs e (0, 0)) bl') (hs : j + u.cells.size ≤ old.size) (hcs : cs.toList = old.toList.take j ++ u.cells.toList ++ old.toList.drop (j + u.cells.size)) (ht : (P.info? t).map (·.size) = some u.cells.size) (h1 : ∀ q ∈ u.cells.toList, q.oneCell' = true)
    (h : ∀ w1, Fr M0 A0 w0 w1 bl' p0 → RO P ops Q S ds n (i :: dn) rest a w1) : RO P ops Q S ds n dn ((i, o) :: rest) a W := by
  have hg := (H.blk _ ha.mem).1
  refine ro_last hc hd hw fun K hK => ?_
  have hr := run_store_run (P := P) (w := W) (g := g) (o := j) (e := e) (cur := old) t u u.cells.toList hg rfl (by rw [ht, Array.length_toList]) (by rw [Array.length_toList]; omega) h1
  unfold Oper.wp execOp
  simp only [ho, hp, hv, hr, Sem.run_bind, Sem.run_pure, Result.andThen_ok]
  show K (a.put o.dst undef) _
  rw [hN]
  refine hK _ _ (h _ (H.put ha ?_ ?_ ?_ ?_))
  · obtain ⟨cur', h3, h4, h5⟩ := setCells_row u.cells.toList j W old hg (by rw [Array.length_toList]; omega)
    have h6 : cur' = cs := by
      apply Array.ext'
      rw [h5, hcs, Array.length_toList]
    rw [h3, h6]
  · obtain ⟨s1, s2, s3, s4⟩ := setCells_same g u.cells.toList j W
    exact ⟨s1, s2, s3, by rw [s4]; exact Nat.le_refl _, fun k _ hk => setCells_far _ _ k (fun he => hk (by rw [he]))⟩
  · exact fun k hk => setCells_far _ _ k hk
  · exact (setCells_same g u.cells.toList j W).2.2.2
end
end Go.Proofs.YtbmfgcekglgliaaGreatRz

namespace Go.Proofs.YtbmfgcekglgliaaGreat.G
open Go.RowKit Go.Proofs.YtbmfgcekglgliaaGreatW.PrintWords Go.Proofs.YtbmfgcekglgliaaGreatW.PrintLast Go.Proofs.YtbmfgcekglgliaaGreatW.PrintMore Go.Proofs.YtbmfgcekglgliaaGreatPl Go.Proofs.YtbmfgcekglgliaaGreatEm Go.Proofs.YtbmfgcekglgliaaGreatKr Go.Proofs.YtbmfgcekglgliaaGreatRz Go.Proofs.YtbmfgcekglgliaaGreat.X
set_option linter.unusedVariables false
set_option linter.unusedSimpArgs false
structure St where
  lo : Int
  hi : Int
  time : Int
  set : Bool
  held : Int
  hops : Int
  good : Bool
  tab : List Lp
  st : Int
  sn : Int
  life : Int
theorem row_C {W : World} {b n : Nat} {u : Value} {l : List Lp} (h : W.ownsRow b 58 2 u n (flL l)) (hn : l.length = n) : ∃ A c, u = .slice A n c ∧ n ≤ c ∧ Kd.C k58 W A n l ∧ (∀ ad, A = some ad → b ≤ ad.block) := by
  obtain ⟨h1, h2 | ⟨g, cap, cur, h2, h3, h4, h5, h6, h7, h8⟩⟩ := h
  · obtain ⟨h2, h3⟩ := h2
    exact ⟨none, 0, by rw [h2, h3], by omega, ⟨hn, by omega, fun h => by omega⟩, fun ad h => by cases h⟩
  · refine ⟨some ⟨g, 0, none⟩, cap, h2, h5, ⟨hn, by unfold maxLen at h6; omega, fun _ => ⟨_, rfl, fun j q hq => ?_⟩⟩, fun ad h => by cases h; exact h3⟩
    refine ⟨[.int .i64 q.f0, .int .i64 q.f1], rfl, k58_mk W q, fun i u hu => ?_⟩
    have hj : j < l.length := (List.getElem?_eq_some_iff.1 hq).1
    have hi : i < 2 := (List.getElem?_eq_some_iff.1 hu).1
    show W.cell? ((⟨g, 0, none⟩ : Addr).add (j * 2 + i)) = _
    rw [show ((⟨g, 0, none⟩ : Addr).add (j * 2 + i)) = ⟨g, j * 2 + i, none⟩ by
      unfold Addr.add
      split
      · rename_i h0; simp at h0; obtain ⟨e1, e2⟩ := h0; rw [show j * 2 + i = 0 by omega]
      · simp, blk_cell h4]
    have e : (flL l)[j * 2 + i]? = some u := flL_at l j i q u hq hu
    rw [← h8, List.getElem?_take] at e
    split at e
    · simpa using e
    · cases e
where
  flL_at : ∀ (l : List Lp) (j i : Nat) (q : Lp) (u : Value), l[j]? = some q → [Value.int .i64 q.f0, .int .i64 q.f1][i]? = some u → (flL l)[j * 2 + i]? = some u
    | [], j, i, q, u, h, _ => by simp at h
    | x :: l, 0, i, q, u, h, hu => by
      simp at h
      subst h
      rw [show 0 * 2 + i = i by omega]
      show ([Value.int .i64 x.f0, .int .i64 x.f1] ++ flL l)[i]? = some u
      rw [List.getElem?_append_left (List.getElem?_eq_some_iff.1 hu).1]
      exact hu
    | x :: l, j + 1, i, q, u, h, hu => by
      have := flL_at l j i q u (by simpa using h) hu
      rw [show (j + 1) * 2 + i = j * 2 + i + 1 + 1 by omega]
      exact this
theorem Tr_row {D : Nat → Prop} {W W' : World} {b : Nat} {e : TypeId} {sz n : Nat} {v : Value} {xs : List Value} (hD : ∀ k, D k → k < W.heap.size) (hb : b ≤ W.heap.size) (h : W'.ownsRow W.heap.size e sz v n xs) : Tr D W' (fun W1 => W1.ownsRow b e sz v n xs) := by
  intro W1 hW
  refine ⟨h.1, ?_⟩
  rcases h.2 with h2 | ⟨g, cap, cur, h2, h3, h4, h5⟩
  · exact .inl h2
  · refine .inr ⟨g, cap, cur, h2, Nat.le_trans hb h3, ?_, h5⟩
    rw [hW g (fun hk => by have := hD g hk; omega) (Go.Proofs.YtbmfgcekglgliaaGreatEm.obj_lt h4)]
    exact h4
theorem row_mono {W : World} {b b' e sz n : Nat} {v : Value} {xs : List Value} (hb : b' ≤ b) (h : W.ownsRow b e sz v n xs) : W.ownsRow b' e sz v n xs := by
  refine ⟨h.1, ?_⟩
  rcases h.2 with h2 | ⟨g, cap, cur, h2, h3, h4⟩
  · exact .inl h2
  · exact .inr ⟨g, cap, cur, h2, Nat.le_trans hb h3, h4⟩
def hollow (s : St) : Bool := decide (clip s.hi < clip s.lo)
def saneS (D : Int) (s : St) : St where
  lo := if hollow s = true then -2305843009213693952 else clip s.lo
  hi := if hollow s = true then 2305843009213693952 else clip s.hi
  time := clip s.time
  set := s.set
  held := bound s.held 0 1073741824
  hops := bound s.hops 0 (sadd [D, 1])
  good := if hollow s = true then false else s.good
  tab := if gd s.tab = true then s.tab else []
  st := if rightP s.st s.sn = true then s.st else clip s.time
  sn := if rightP s.st s.sn = true then s.sn else 0
  life := bound s.life 0 2305843009213693952
set_option maxRecDepth 100000 in
set_option maxHeartbeats 8000000 in
theorem Sane_calls (p : Par) (s : St) (A : Option Addr) (c : Nat) (w : World) (hr : Kd.C k58 w A s.tab.length s.tab) (hl : s.tab.length ≤ 4096) :
    Calls Tryz.prog 19 #[.agg #[.int .i64 p.N, .int .i64 p.F, .int .i64 p.D, .int .i64 p.Be, .int .i64 p.Rho, .int .i64 p.De, .int .i64 p.Ji, .int .i64 p.Eps, .int .i64 p.Mu, .int .i64 p.Ho, .int .i64 p.Pu, .int .i64 p.Se], .agg #[.int .i64 s.lo, .int .i64 s.hi, .int .i64 s.time, .bool s.set, .int .i64 s.held, .int .i64 s.hops, .bool s.good, .slice A s.tab.length c, .int .i64 s.st, .int .i64 s.sn, .int .i64 s.life]] w fun e w' => ∃ A' c', e = .returned (.agg #[.int .i64 (saneS p.D s).lo, .int .i64 (saneS p.D s).hi, .int .i64 (saneS p.D s).time, .bool (saneS p.D s).set, .int .i64 (saneS p.D s).held, .int .i64 (saneS p.D s).hops, .bool (saneS p.D s).good, .slice A' (saneS p.D s).tab.length c', .int .i64 (saneS p.D s).st, .int .i64 (saneS p.D s).sn, .int .i64 (saneS p.D s).life]) ∧ w'.ownsRow w.heap.size 58 2 (.slice A' (saneS p.D s).tab.length c') (saneS p.D s).tab.length (flL (saneS p.D s).tab) ∧ Below w.heap.size w w' := by
  obtain ⟨lo, hi, time, set, held, hops, good, tab, st, sn, life⟩ := s
  obtain ⟨bn, bf, D, be, rho, de, ji, eps, mu, ho, pu, se⟩ := p
  dsimp only at hr hl ⊢
  have H := Fr.start0 (M := fun _ => False) (A := fun _ => False) (w := w) (p := fun W => Kd.C k58 W A tab.length tab) (fun _ h => h.elim) (Go.Proofs.YtbmfgcekglgliaaGreatEv.Tr.of_C hr k58_heap)
  obtain ⟨n, hn⟩ : ∃ n, tab.length = n := ⟨_, rfl⟩
  obtain ⟨b, hb⟩ : ∃ b, decide (clip hi < clip lo) = b := ⟨_, rfl⟩
  obtain ⟨g, hg⟩ : ∃ g, gd tab = g := ⟨_, rfl⟩
  obtain ⟨r, hr2⟩ : ∃ r, rightP st sn = r := ⟨_, rfl⟩
  have HG := Lib.hid hg
  have HN := Lib.hid hn
  have HL := Lib.hid hl
  have HS : Hid (saneS D ⟨lo, hi, time, set, held, hops, good, tab, st, sn, life⟩ = ⟨if b = true then -2305843009213693952 else clip lo, if b = true then 2305843009213693952 else clip hi, clip time, set, bound held 0 1073741824, bound hops 0 (sadd [D, 1]), if b = true then false else good, if g = true then tab else [], if r = true then st else clip time, if r = true then sn else 0, bound life 0 2305843009213693952⟩) := Lib.hid (by
    unfold saneS hollow
    rw [← hb, ← hg, ← hr2])
  have HGD : Hid (∀ W A1 c1, Kd.C k58 W A1 n tab → Calls Tryz.prog 53 #[.slice A1 n c1] W fun e w' => e = .returned (.bool g) ∧ Below W.heap.size W w') := Lib.hid (fun W A1 c1 h => by
    have := Good_calls A1 c1 tab W (by rw [hn]; exact h)
    rw [hn, hg] at this
    exact this)
  have HCL : Hid (∀ W, Kd.C k58 W A tab.length tab → Calls Tryz.prog 45 #[.slice A n c] W fun e w' => ∃ u, e = .returned u ∧ w'.ownsRow W.heap.size 58 2 u n (flL tab) ∧ Below W.heap.size W w') := Lib.hid (fun W h => by
    have := Clone_calls A c tab W h hl
    rw [hn] at this
    exact this)
  have HM : Hid (∀ W, Calls Tryz.prog 48 #[.agg #[.int .i64 (clip lo), .int .i64 (clip hi)]] W fun e w' => e = .returned (.bool b) ∧ Below W.heap.size W w') := Lib.hid (fun W => hb ▸ Empty_calls _ _ W)
  have HR : Hid (∀ W, Calls Tryz.prog 54 #[.agg #[.int .i64 st, .int .i64 sn]] W fun e w' => e = .returned (.bool r) ∧ Below W.heap.size W w') := Lib.hid (fun W => hr2 ▸ Right_calls _ _ W)
  rw [HS.out]
  rw [hn]
  clear hr hl hn hb hg hr2
  go_enter Tryz.func19, Tryz.ntmps19
  cases b
  all_goals
    go_wp2_with (first
      | (go_at_call 47; (with_reducible refine (SpanOf_calls _ _ _).mono ?_); rintro e w' ⟨rfl, hb⟩; have H1 := H.call hb; clear hb; replace H := H1; clear H1)
      | (go_at_call 48; (with_reducible refine (HM.out _).mono ?_); rintro e w' ⟨rfl, hb⟩; have H1 := H.call hb; clear hb; replace H := H1; clear H1)
      | (go_at_call 49; (with_reducible refine (All_calls _).mono ?_); rintro e w' ⟨rfl, hb⟩; have H1 := H.call hb; clear hb; replace H := H1; clear H1)
      | ((with_reducible refine gate_dst (N := 2) rfl ?_); refine fr_box H rfl rfl rfl ?_; intro g2 w2 H1; replace H := H1; clear H1)
      | ((with_reducible refine gate_dst (N := 3) rfl ?_); refine fr_box H rfl rfl rfl ?_; intro g3 w3 H1; replace H := H1; clear H1)
      | ((with_reducible refine gate_dst (N := 4) rfl ?_); refine fr_new H (N := 4) rfl rfl (cs := #[.int .i64 0, .int .i64 0, .int .i64 0, .bool false, .int .i64 0, .int .i64 0, .bool false, .slice none 0 0, .int .i64 0, .int .i64 0, .int .i64 0]) (t := 30) ?hr ?_; (case hr => first | (go_simp; done) | (go_simp; rfl)); intro g4 w4 H1; replace H := H1; clear H1)
      | ((with_reducible refine gate_dst (N := 7) rfl ?_); refine fr_get H rfl rfl rfl (by repeat (first | exact At.head | apply At.tail)) Tryz.underlying3 rfl (by simp only [List.getElem?_toArray, List.getElem?_cons_succ, List.getElem?_cons_zero]; rfl) ?_)
      | ((with_reducible refine gate_dst (N := 10) rfl ?_); refine fr_get H rfl rfl rfl (by repeat (first | exact At.head | apply At.tail)) Tryz.underlying3 rfl (by simp only [List.getElem?_toArray, List.getElem?_cons_succ, List.getElem?_cons_zero]; rfl) ?_)
      | ((with_reducible refine gate_store (t := 25) (p := 12) rfl ?_); refine fr_set H (u := .agg (List.toArray _)) rfl rfl rfl rfl rfl (by repeat (first | exact At.head | apply At.tail)) (Nat.le_of_ble_eq_true rfl) (by simp only [Value.cells, List.take_succ_cons, List.take_zero, List.drop_succ_cons, List.drop_zero, List.cons_append, List.nil_append, List.size_toArray, List.length_cons, List.length_nil, Nat.reduceAdd, List.append_nil, List.drop_nil, List.take_nil, List.toList_toArray]; rfl) (by kernel_rfl) (by simp [Value.cells, Value.oneCell']) ?_; intro w12_ H1; replace H := H1; clear H1)
      | ((with_reducible refine gate_dst (N := 14) rfl ?_); refine fr_sub H (n := 2) rfl rfl rfl (by repeat (first | exact At.head | apply At.tail)) Tryz.underlying25 rfl (by kernel_rfl) (by simp only [List.toList_toArray, List.drop_succ_cons, List.drop_zero, List.take_succ_cons, List.take_zero]; rfl) (by rfl) ?_)
      | ((with_reducible refine gate_store (t := 25) (p := 17) rfl ?_); refine fr_set H (u := .agg (List.toArray _)) rfl rfl rfl rfl rfl (by repeat (first | exact At.head | apply At.tail)) (Nat.le_of_ble_eq_true rfl) (by simp only [Value.cells, List.take_succ_cons, List.take_zero, List.drop_succ_cons, List.drop_zero, List.cons_append, List.nil_append, List.size_toArray, List.length_cons, List.length_nil, Nat.reduceAdd, List.append_nil, List.drop_nil, List.take_nil, List.toList_toArray]; rfl) (by kernel_rfl) (by simp [Value.cells, Value.oneCell']) ?_; intro w17_ H1; replace H := H1; clear H1)
      | ((with_reducible refine gate_store (t := 4) (p := 18) rfl ?_); refine fr_set H (u := .bool _) rfl rfl rfl rfl rfl (by repeat (first | exact At.head | apply At.tail)) (Nat.le_of_ble_eq_true rfl) (by simp only [Value.cells, List.take_succ_cons, List.take_zero, List.drop_succ_cons, List.drop_zero, List.cons_append, List.nil_append, List.size_toArray, List.length_cons, List.length_nil, Nat.reduceAdd, List.append_nil, List.drop_nil, List.take_nil, List.toList_toArray]; rfl) (by kernel_rfl) (by simp [Value.cells, Value.oneCell']) ?_; intro w18_ H1; replace H := H1; clear H1)
      | ((with_reducible refine gate_dst (N := 36) rfl ?_); refine fr_get H rfl rfl rfl (by repeat (first | exact At.head | apply At.tail)) Tryz.underlying3 rfl (by simp only [List.getElem?_toArray, List.getElem?_cons_succ, List.getElem?_cons_zero]; rfl) ?_)
      | ((with_reducible refine gate_store (t := 3) (p := 38) rfl ?_); refine fr_set H (u := .int .i64 _) rfl rfl rfl rfl rfl (by repeat (first | exact At.head | apply At.tail)) (Nat.le_of_ble_eq_true rfl) (by simp only [Value.cells, List.take_succ_cons, List.take_zero, List.drop_succ_cons, List.drop_zero, List.cons_append, List.nil_append, List.size_toArray, List.length_cons, List.length_nil, Nat.reduceAdd, List.append_nil, List.drop_nil, List.take_nil, List.toList_toArray]; rfl) (by kernel_rfl) (by simp [Value.cells, Value.oneCell']) ?_; intro w38_ H1; replace H := H1; clear H1)
      | ((with_reducible refine gate_dst (N := 40) rfl ?_); refine fr_get H rfl rfl rfl (by repeat (first | exact At.head | apply At.tail)) Tryz.underlying26 rfl (by simp only [List.getElem?_toArray, List.getElem?_cons_succ, List.getElem?_cons_zero]; rfl) ?_)
      | ((with_reducible refine gate_store (t := 26) (p := 42) rfl ?_); refine fr_set H (u := .slice _ _ _) rfl rfl rfl rfl rfl (by repeat (first | exact At.head | apply At.tail)) (Nat.le_of_ble_eq_true rfl) (by simp only [Value.cells, List.take_succ_cons, List.take_zero, List.drop_succ_cons, List.drop_zero, List.cons_append, List.nil_append, List.size_toArray, List.length_cons, List.length_nil, Nat.reduceAdd, List.append_nil, List.drop_nil, List.take_nil, List.toList_toArray]; rfl) (by kernel_rfl) (by simp [Value.cells, Value.oneCell']) ?_; intro w42_ H1; replace H := H1; clear H1)
      | ((with_reducible refine gate_dst (N := 44) rfl ?_); refine fr_get H rfl rfl rfl (by repeat (first | exact At.head | apply At.tail)) Tryz.underlying26 rfl (by simp only [List.getElem?_toArray, List.getElem?_cons_succ, List.getElem?_cons_zero]; rfl) ?_)
      | ((with_reducible refine gate_store (t := 26) (p := 47) rfl ?_); refine fr_set H (u := .slice _ _ _) rfl rfl rfl rfl rfl (by repeat (first | exact At.head | apply At.tail)) (Nat.le_of_ble_eq_true rfl) (by simp only [Value.cells, List.take_succ_cons, List.take_zero, List.drop_succ_cons, List.drop_zero, List.cons_append, List.nil_append, List.size_toArray, List.length_cons, List.length_nil, Nat.reduceAdd, List.append_nil, List.drop_nil, List.take_nil, List.toList_toArray]; rfl) (by kernel_rfl) (by simp [Value.cells, Value.oneCell']) ?_; intro w47_ H1; replace H := H1; clear H1)
      | ((with_reducible refine gate_dst (N := 49) rfl ?_); refine fr_sub H (n := 2) rfl rfl rfl (by repeat (first | exact At.head | apply At.tail)) Tryz.underlying28 rfl (by kernel_rfl) (by simp only [List.toList_toArray, List.drop_succ_cons, List.drop_zero, List.take_succ_cons, List.take_zero]; rfl) (by rfl) ?_)
      | ((with_reducible refine gate_dst (N := 53) rfl ?_); refine fr_get H rfl rfl rfl (by repeat (first | exact At.head | apply At.tail)) Tryz.underlying3 rfl (by simp only [List.getElem?_toArray, List.getElem?_cons_succ, List.getElem?_cons_zero]; rfl) ?_)
      | ((with_reducible refine gate_store (t := 28) (p := 55) rfl ?_); refine fr_set H (u := .agg (List.toArray _)) rfl rfl rfl rfl rfl (by repeat (first | exact At.head | apply At.tail)) (Nat.le_of_ble_eq_true rfl) (by simp only [Value.cells, List.take_succ_cons, List.take_zero, List.drop_succ_cons, List.drop_zero, List.cons_append, List.nil_append, List.size_toArray, List.length_cons, List.length_nil, Nat.reduceAdd, List.append_nil, List.drop_nil, List.take_nil, List.toList_toArray]; rfl) (by kernel_rfl) (by simp [Value.cells, Value.oneCell']) ?_; intro w55_ H1; replace H := H1; clear H1)
      | ((with_reducible refine gate_dst (N := 56) rfl ?_); refine fr_sub H (n := 11) rfl rfl rfl (by repeat (first | exact At.head | apply At.tail)) Tryz.underlying30 rfl (by kernel_rfl) (by simp only [List.toList_toArray, List.drop_succ_cons, List.drop_zero, List.take_succ_cons, List.take_zero]; rfl) (by rfl) ?_)
      | ((with_reducible refine gate_store (t := 30) (p := 4) rfl ?_); refine fr_put H rfl rfl rfl rfl rfl (by repeat (first | exact At.head | apply At.tail)) (by rfl) (by kernel_rfl) (by simp [Value.oneCell']) ?_; intro w4_ H1; replace H := H1; clear H1)
      | fail)
    refine ro_start (Frs _ _ _ _ _) [14, 16, 18] [0, 1, 2, 3, 4, 5, 6, 7, 8, 9, 13, 10, 11, 12, 14, 15, 16, 17, 18] 19 (by kernel_rfl) (by rfl) (by simp only [pickR, List.getElem?_cons_succ, List.getElem?_cons_zero]; rfl) (by rfl) (H.drewN 1) (fun HS => ?_)
    have H1 : Fr _ _ _ _ _ _ := HS
    clear HS H
    have H := H1
    clear H1
    repeat (first
      | ((with_reducible refine rz_call (f := 50) rfl ?_); refine ro_quiet 50 _ rfl (by kernel_rfl) (fun _ _ _ h => h) (by rfl) Tryz.func50 (by kernel_rfl) rfl (by simp only [List.map_toArray, List.map_cons, List.map_nil]; rfl) H (fun w _ => Clip_calls _ _) ?_; (try simp only [Act.put, lsA, lsZ, lsS, Nat.reduceAdd]))
      | ((with_reducible refine rz_call (f := 51) rfl ?_); refine ro_quiet 51 _ rfl (by kernel_rfl) (fun _ _ _ h => h) (by rfl) Tryz.func51 (by kernel_rfl) rfl (by simp only [List.map_toArray, List.map_cons, List.map_nil]; rfl) H (fun w _ => Bound_calls _ _ _ _) ?_; (try simp only [Act.put, lsA, lsZ, lsS, Nat.reduceAdd]))
      | ((with_reducible refine rz_call (f := 52) rfl ?_); refine ro_call 52 _ rfl (by kernel_rfl) (by kernel_rfl) (by rfl) Tryz.func52 (by kernel_rfl) rfl (by simp only [List.map_toArray, List.map_cons, List.map_nil]; rfl) ?_; (refine (Add2 hx29).mono ?_); rintro e w' ⟨rfl, hb⟩; have H1 := H.call hb; refine ⟨_, rfl, H1, fun _ => ?_⟩; clear hb; replace H := H1; clear H1; (try simp only [Act.put, lsA, lsZ, lsS, Nat.reduceAdd]))
      | ((with_reducible refine rz_load (ty := 3) rfl ?_); refine ro_get H rfl (by kernel_rfl) (fun _ _ _ h => h) (by rfl) (by rfl) (by repeat (first | exact At.head | apply At.tail)) Tryz.underlying3 rfl (by simp only [List.getElem?_toArray, List.getElem?_cons_succ, List.getElem?_cons_zero]; rfl) ?_; (try simp only [Act.put, lsA, lsZ, lsS, Nat.reduceAdd]))
      | ((with_reducible refine rz_dst (N := 29) rfl ?_); refine ro_row H (by kernel_rfl) (by kernel_rfl) (by rfl) (fun K hK => by go_simp; exact hK.out) ?_; intro x29 w1 hx29 H1; replace H := H1; clear H1; (try simp only [Act.put, lsA, lsZ, lsS, Nat.reduceAdd]))
      | ((with_reducible refine rz_store (ty := 3) rfl ?_); refine ro_set H (u := .int .i64 _) rfl rfl (by kernel_rfl) (by kernel_rfl) (by rfl) (by rfl) (by rfl) (by repeat (first | exact At.head | apply At.tail)) (Nat.le_of_ble_eq_true rfl) (by simp only [Value.cells, List.take_succ_cons, List.take_zero, List.drop_succ_cons, List.drop_zero, List.cons_append, List.nil_append, List.size_toArray, List.length_cons, List.length_nil, Nat.reduceAdd, List.append_nil, List.drop_nil, List.take_nil, List.toList_toArray]; rfl) (by kernel_rfl) (by simp [Value.cells, Value.oneCell']) ?_; intro w1 H1; replace H := H1; clear H1; (try simp only [Act.put, lsA, lsZ, lsS, Nat.reduceAdd]))
      | (refine ro_off (by kernel_rfl) (fun _ _ _ h => h) (by rfl) ?_; (try simp only [Act.put, lsA, lsZ, lsS, Nat.reduceAdd]))
      | (refine ro_pure (by kernel_rfl) (fun _ _ _ h => h) (by rfl) (fun W K hK => by go_simp; exact hK.out) ?_; (try simp only [Act.put, lsA, lsZ, lsS, Nat.reduceAdd])))
    refine ro_done (by kernel_rfl) ?_
    go_wp2_with (first
      | (go_at_call 51; (with_reducible refine (ret_below (Bound_calls _ _ _ _)).mono ?_); rintro e w' ⟨rfl, hb⟩; have H1 := H.call hb; clear hb; replace H := H1; clear H1)
      | (go_at_call 45; (with_reducible refine (HCL.out _ H.now).mono ?_); rintro e w' ⟨u, rfl, ho, hb⟩; obtain ⟨A1, c1, rfl, hc1, _⟩ := row_C ho HN.out; have H1 := H.call2 hb (Tr_row H.avs H.chg.size ho); clear hb ho; replace H := H1; clear H1)
      | ((with_reducible refine gate_dst (N := 2) rfl ?_); refine fr_box H rfl rfl rfl ?_; intro g2 w2 H1; replace H := H1; clear H1)
      | ((with_reducible refine gate_dst (N := 3) rfl ?_); refine fr_box H rfl rfl rfl ?_; intro g3 w3 H1; replace H := H1; clear H1)
      | ((with_reducible refine gate_dst (N := 4) rfl ?_); refine fr_new H (N := 4) rfl rfl (cs := #[.int .i64 0, .int .i64 0, .int .i64 0, .bool false, .int .i64 0, .int .i64 0, .bool false, .slice none 0 0, .int .i64 0, .int .i64 0, .int .i64 0]) (t := 30) ?hr ?_; (case hr => first | (go_simp; done) | (go_simp; rfl)); intro g4 w4 H1; replace H := H1; clear H1)
      | ((with_reducible refine gate_dst (N := 7) rfl ?_); refine fr_get H rfl rfl rfl (by repeat (first | exact At.head | apply At.tail)) Tryz.underlying3 rfl (by simp only [List.getElem?_toArray, List.getElem?_cons_succ, List.getElem?_cons_zero]; rfl) ?_)
      | ((with_reducible refine gate_dst (N := 10) rfl ?_); refine fr_get H rfl rfl rfl (by repeat (first | exact At.head | apply At.tail)) Tryz.underlying3 rfl (by simp only [List.getElem?_toArray, List.getElem?_cons_succ, List.getElem?_cons_zero]; rfl) ?_)
      | ((with_reducible refine gate_store (t := 25) (p := 12) rfl ?_); refine fr_set H (u := .agg (List.toArray _)) rfl rfl rfl rfl rfl (by repeat (first | exact At.head | apply At.tail)) (Nat.le_of_ble_eq_true rfl) (by simp only [Value.cells, List.take_succ_cons, List.take_zero, List.drop_succ_cons, List.drop_zero, List.cons_append, List.nil_append, List.size_toArray, List.length_cons, List.length_nil, Nat.reduceAdd, List.append_nil, List.drop_nil, List.take_nil, List.toList_toArray]; rfl) (by kernel_rfl) (by simp [Value.cells, Value.oneCell']) ?_; intro w12_ H1; replace H := H1; clear H1)
      | ((with_reducible refine gate_dst (N := 14) rfl ?_); refine fr_sub H (n := 2) rfl rfl rfl (by repeat (first | exact At.head | apply At.tail)) Tryz.underlying25 rfl (by kernel_rfl) (by simp only [List.toList_toArray, List.drop_succ_cons, List.drop_zero, List.take_succ_cons, List.take_zero]; rfl) (by rfl) ?_)
      | ((with_reducible refine gate_store (t := 25) (p := 17) rfl ?_); refine fr_set H (u := .agg (List.toArray _)) rfl rfl rfl rfl rfl (by repeat (first | exact At.head | apply At.tail)) (Nat.le_of_ble_eq_true rfl) (by simp only [Value.cells, List.take_succ_cons, List.take_zero, List.drop_succ_cons, List.drop_zero, List.cons_append, List.nil_append, List.size_toArray, List.length_cons, List.length_nil, Nat.reduceAdd, List.append_nil, List.drop_nil, List.take_nil, List.toList_toArray]; rfl) (by kernel_rfl) (by simp [Value.cells, Value.oneCell']) ?_; intro w17_ H1; replace H := H1; clear H1)
      | ((with_reducible refine gate_store (t := 4) (p := 18) rfl ?_); refine fr_set H (u := .bool _) rfl rfl rfl rfl rfl (by repeat (first | exact At.head | apply At.tail)) (Nat.le_of_ble_eq_true rfl) (by simp only [Value.cells, List.take_succ_cons, List.take_zero, List.drop_succ_cons, List.drop_zero, List.cons_append, List.nil_append, List.size_toArray, List.length_cons, List.length_nil, Nat.reduceAdd, List.append_nil, List.drop_nil, List.take_nil, List.toList_toArray]; rfl) (by kernel_rfl) (by simp [Value.cells, Value.oneCell']) ?_; intro w18_ H1; replace H := H1; clear H1)
      | ((with_reducible refine gate_dst (N := 36) rfl ?_); refine fr_get H rfl rfl rfl (by repeat (first | exact At.head | apply At.tail)) Tryz.underlying3 rfl (by simp only [List.getElem?_toArray, List.getElem?_cons_succ, List.getElem?_cons_zero]; rfl) ?_)
      | ((with_reducible refine gate_store (t := 3) (p := 38) rfl ?_); refine fr_set H (u := .int .i64 _) rfl rfl rfl rfl rfl (by repeat (first | exact At.head | apply At.tail)) (Nat.le_of_ble_eq_true rfl) (by simp only [Value.cells, List.take_succ_cons, List.take_zero, List.drop_succ_cons, List.drop_zero, List.cons_append, List.nil_append, List.size_toArray, List.length_cons, List.length_nil, Nat.reduceAdd, List.append_nil, List.drop_nil, List.take_nil, List.toList_toArray]; rfl) (by kernel_rfl) (by simp [Value.cells, Value.oneCell']) ?_; intro w38_ H1; replace H := H1; clear H1)
      | ((with_reducible refine gate_dst (N := 40) rfl ?_); refine fr_get H rfl rfl rfl (by repeat (first | exact At.head | apply At.tail)) Tryz.underlying26 rfl (by simp only [List.getElem?_toArray, List.getElem?_cons_succ, List.getElem?_cons_zero]; rfl) ?_)
      | ((with_reducible refine gate_store (t := 26) (p := 42) rfl ?_); refine fr_set H (u := .slice _ _ _) rfl rfl rfl rfl rfl (by repeat (first | exact At.head | apply At.tail)) (Nat.le_of_ble_eq_true rfl) (by simp only [Value.cells, List.take_succ_cons, List.take_zero, List.drop_succ_cons, List.drop_zero, List.cons_append, List.nil_append, List.size_toArray, List.length_cons, List.length_nil, Nat.reduceAdd, List.append_nil, List.drop_nil, List.take_nil, List.toList_toArray]; rfl) (by kernel_rfl) (by simp [Value.cells, Value.oneCell']) ?_; intro w42_ H1; replace H := H1; clear H1)
      | ((with_reducible refine gate_dst (N := 44) rfl ?_); refine fr_get H rfl rfl rfl (by repeat (first | exact At.head | apply At.tail)) Tryz.underlying26 rfl (by simp only [List.getElem?_toArray, List.getElem?_cons_succ, List.getElem?_cons_zero]; rfl) ?_)
      | ((with_reducible refine gate_store (t := 26) (p := 47) rfl ?_); refine fr_set H (u := .slice _ _ _) rfl rfl rfl rfl rfl (by repeat (first | exact At.head | apply At.tail)) (Nat.le_of_ble_eq_true rfl) (by simp only [Value.cells, List.take_succ_cons, List.take_zero, List.drop_succ_cons, List.drop_zero, List.cons_append, List.nil_append, List.size_toArray, List.length_cons, List.length_nil, Nat.reduceAdd, List.append_nil, List.drop_nil, List.take_nil, List.toList_toArray]; rfl) (by kernel_rfl) (by simp [Value.cells, Value.oneCell']) ?_; intro w47_ H1; replace H := H1; clear H1)
      | ((with_reducible refine gate_dst (N := 49) rfl ?_); refine fr_sub H (n := 2) rfl rfl rfl (by repeat (first | exact At.head | apply At.tail)) Tryz.underlying28 rfl (by kernel_rfl) (by simp only [List.toList_toArray, List.drop_succ_cons, List.drop_zero, List.take_succ_cons, List.take_zero]; rfl) (by rfl) ?_)
      | ((with_reducible refine gate_dst (N := 53) rfl ?_); refine fr_get H rfl rfl rfl (by repeat (first | exact At.head | apply At.tail)) Tryz.underlying3 rfl (by simp only [List.getElem?_toArray, List.getElem?_cons_succ, List.getElem?_cons_zero]; rfl) ?_)
      | ((with_reducible refine gate_store (t := 28) (p := 55) rfl ?_); refine fr_set H (u := .agg (List.toArray _)) rfl rfl rfl rfl rfl (by repeat (first | exact At.head | apply At.tail)) (Nat.le_of_ble_eq_true rfl) (by simp only [Value.cells, List.take_succ_cons, List.take_zero, List.drop_succ_cons, List.drop_zero, List.cons_append, List.nil_append, List.size_toArray, List.length_cons, List.length_nil, Nat.reduceAdd, List.append_nil, List.drop_nil, List.take_nil, List.toList_toArray]; rfl) (by kernel_rfl) (by simp [Value.cells, Value.oneCell']) ?_; intro w55_ H1; replace H := H1; clear H1)
      | ((with_reducible refine gate_dst (N := 56) rfl ?_); refine fr_sub H (n := 11) rfl rfl rfl (by repeat (first | exact At.head | apply At.tail)) Tryz.underlying30 rfl (by kernel_rfl) (by simp only [List.toList_toArray, List.drop_succ_cons, List.drop_zero, List.take_succ_cons, List.take_zero]; rfl) (by rfl) ?_)
      | ((with_reducible refine gate_store (t := 30) (p := 4) rfl ?_); refine fr_put H rfl rfl rfl rfl rfl (by repeat (first | exact At.head | apply At.tail)) (by rfl) (by kernel_rfl) (by simp [Value.oneCell']) ?_; intro w4_ H1; replace H := H1; clear H1)
      | fail)
    cases g
    all_goals
      go_wp2_with (first
        | (go_at_call 53; have hrow := row_C H.now.2 HN.out; obtain ⟨A2, c2, e2, _, hrow, _⟩ := hrow; cases e2; (with_reducible refine (HGD.out _ _ _ hrow).mono ?_); rintro e w' ⟨rfl, hb⟩; have H1 := H.call hb; clear hb hrow; replace H := H1; clear H1)
        | ((with_reducible refine gate_dst (N := 2) rfl ?_); refine fr_box H rfl rfl rfl ?_; intro g2 w2 H1; replace H := H1; clear H1)
        | ((with_reducible refine gate_dst (N := 3) rfl ?_); refine fr_box H rfl rfl rfl ?_; intro g3 w3 H1; replace H := H1; clear H1)
        | ((with_reducible refine gate_dst (N := 4) rfl ?_); refine fr_new H (N := 4) rfl rfl (cs := #[.int .i64 0, .int .i64 0, .int .i64 0, .bool false, .int .i64 0, .int .i64 0, .bool false, .slice none 0 0, .int .i64 0, .int .i64 0, .int .i64 0]) (t := 30) ?hr ?_; (case hr => first | (go_simp; done) | (go_simp; rfl)); intro g4 w4 H1; replace H := H1; clear H1)
        | ((with_reducible refine gate_dst (N := 7) rfl ?_); refine fr_get H rfl rfl rfl (by repeat (first | exact At.head | apply At.tail)) Tryz.underlying3 rfl (by simp only [List.getElem?_toArray, List.getElem?_cons_succ, List.getElem?_cons_zero]; rfl) ?_)
        | ((with_reducible refine gate_dst (N := 10) rfl ?_); refine fr_get H rfl rfl rfl (by repeat (first | exact At.head | apply At.tail)) Tryz.underlying3 rfl (by simp only [List.getElem?_toArray, List.getElem?_cons_succ, List.getElem?_cons_zero]; rfl) ?_)
        | ((with_reducible refine gate_store (t := 25) (p := 12) rfl ?_); refine fr_set H (u := .agg (List.toArray _)) rfl rfl rfl rfl rfl (by repeat (first | exact At.head | apply At.tail)) (Nat.le_of_ble_eq_true rfl) (by simp only [Value.cells, List.take_succ_cons, List.take_zero, List.drop_succ_cons, List.drop_zero, List.cons_append, List.nil_append, List.size_toArray, List.length_cons, List.length_nil, Nat.reduceAdd, List.append_nil, List.drop_nil, List.take_nil, List.toList_toArray]; rfl) (by kernel_rfl) (by simp [Value.cells, Value.oneCell']) ?_; intro w12_ H1; replace H := H1; clear H1)
        | ((with_reducible refine gate_dst (N := 14) rfl ?_); refine fr_sub H (n := 2) rfl rfl rfl (by repeat (first | exact At.head | apply At.tail)) Tryz.underlying25 rfl (by kernel_rfl) (by simp only [List.toList_toArray, List.drop_succ_cons, List.drop_zero, List.take_succ_cons, List.take_zero]; rfl) (by rfl) ?_)
        | ((with_reducible refine gate_store (t := 25) (p := 17) rfl ?_); refine fr_set H (u := .agg (List.toArray _)) rfl rfl rfl rfl rfl (by repeat (first | exact At.head | apply At.tail)) (Nat.le_of_ble_eq_true rfl) (by simp only [Value.cells, List.take_succ_cons, List.take_zero, List.drop_succ_cons, List.drop_zero, List.cons_append, List.nil_append, List.size_toArray, List.length_cons, List.length_nil, Nat.reduceAdd, List.append_nil, List.drop_nil, List.take_nil, List.toList_toArray]; rfl) (by kernel_rfl) (by simp [Value.cells, Value.oneCell']) ?_; intro w17_ H1; replace H := H1; clear H1)
        | ((with_reducible refine gate_store (t := 4) (p := 18) rfl ?_); refine fr_set H (u := .bool _) rfl rfl rfl rfl rfl (by repeat (first | exact At.head | apply At.tail)) (Nat.le_of_ble_eq_true rfl) (by simp only [Value.cells, List.take_succ_cons, List.take_zero, List.drop_succ_cons, List.drop_zero, List.cons_append, List.nil_append, List.size_toArray, List.length_cons, List.length_nil, Nat.reduceAdd, List.append_nil, List.drop_nil, List.take_nil, List.toList_toArray]; rfl) (by kernel_rfl) (by simp [Value.cells, Value.oneCell']) ?_; intro w18_ H1; replace H := H1; clear H1)
        | ((with_reducible refine gate_dst (N := 36) rfl ?_); refine fr_get H rfl rfl rfl (by repeat (first | exact At.head | apply At.tail)) Tryz.underlying3 rfl (by simp only [List.getElem?_toArray, List.getElem?_cons_succ, List.getElem?_cons_zero]; rfl) ?_)
        | ((with_reducible refine gate_store (t := 3) (p := 38) rfl ?_); refine fr_set H (u := .int .i64 _) rfl rfl rfl rfl rfl (by repeat (first | exact At.head | apply At.tail)) (Nat.le_of_ble_eq_true rfl) (by simp only [Value.cells, List.take_succ_cons, List.take_zero, List.drop_succ_cons, List.drop_zero, List.cons_append, List.nil_append, List.size_toArray, List.length_cons, List.length_nil, Nat.reduceAdd, List.append_nil, List.drop_nil, List.take_nil, List.toList_toArray]; rfl) (by kernel_rfl) (by simp [Value.cells, Value.oneCell']) ?_; intro w38_ H1; replace H := H1; clear H1)
        | ((with_reducible refine gate_dst (N := 40) rfl ?_); refine fr_get H rfl rfl rfl (by repeat (first | exact At.head | apply At.tail)) Tryz.underlying26 rfl (by simp only [List.getElem?_toArray, List.getElem?_cons_succ, List.getElem?_cons_zero]; rfl) ?_)
        | ((with_reducible refine gate_store (t := 26) (p := 42) rfl ?_); refine fr_set H (u := .slice _ _ _) rfl rfl rfl rfl rfl (by repeat (first | exact At.head | apply At.tail)) (Nat.le_of_ble_eq_true rfl) (by simp only [Value.cells, List.take_succ_cons, List.take_zero, List.drop_succ_cons, List.drop_zero, List.cons_append, List.nil_append, List.size_toArray, List.length_cons, List.length_nil, Nat.reduceAdd, List.append_nil, List.drop_nil, List.take_nil, List.toList_toArray]; rfl) (by kernel_rfl) (by simp [Value.cells, Value.oneCell']) ?_; intro w42_ H1; replace H := H1; clear H1)
        | ((with_reducible refine gate_dst (N := 44) rfl ?_); refine fr_get H rfl rfl rfl (by repeat (first | exact At.head | apply At.tail)) Tryz.underlying26 rfl (by simp only [List.getElem?_toArray, List.getElem?_cons_succ, List.getElem?_cons_zero]; rfl) ?_)
        | ((with_reducible refine gate_store (t := 26) (p := 47) rfl ?_); refine fr_set H (u := .slice _ _ _) rfl rfl rfl rfl rfl (by repeat (first | exact At.head | apply At.tail)) (Nat.le_of_ble_eq_true rfl) (by simp only [Value.cells, List.take_succ_cons, List.take_zero, List.drop_succ_cons, List.drop_zero, List.cons_append, List.nil_append, List.size_toArray, List.length_cons, List.length_nil, Nat.reduceAdd, List.append_nil, List.drop_nil, List.take_nil, List.toList_toArray]; rfl) (by kernel_rfl) (by simp [Value.cells, Value.oneCell']) ?_; intro w47_ H1; replace H := H1; clear H1)
        | ((with_reducible refine gate_dst (N := 49) rfl ?_); refine fr_sub H (n := 2) rfl rfl rfl (by repeat (first | exact At.head | apply At.tail)) Tryz.underlying28 rfl (by kernel_rfl) (by simp only [List.toList_toArray, List.drop_succ_cons, List.drop_zero, List.take_succ_cons, List.take_zero]; rfl) (by rfl) ?_)
        | ((with_reducible refine gate_dst (N := 53) rfl ?_); refine fr_get H rfl rfl rfl (by repeat (first | exact At.head | apply At.tail)) Tryz.underlying3 rfl (by simp only [List.getElem?_toArray, List.getElem?_cons_succ, List.getElem?_cons_zero]; rfl) ?_)
        | ((with_reducible refine gate_store (t := 28) (p := 55) rfl ?_); refine fr_set H (u := .agg (List.toArray _)) rfl rfl rfl rfl rfl (by repeat (first | exact At.head | apply At.tail)) (Nat.le_of_ble_eq_true rfl) (by simp only [Value.cells, List.take_succ_cons, List.take_zero, List.drop_succ_cons, List.drop_zero, List.cons_append, List.nil_append, List.size_toArray, List.length_cons, List.length_nil, Nat.reduceAdd, List.append_nil, List.drop_nil, List.take_nil, List.toList_toArray]; rfl) (by kernel_rfl) (by simp [Value.cells, Value.oneCell']) ?_; intro w55_ H1; replace H := H1; clear H1)
        | ((with_reducible refine gate_dst (N := 56) rfl ?_); refine fr_sub H (n := 11) rfl rfl rfl (by repeat (first | exact At.head | apply At.tail)) Tryz.underlying30 rfl (by kernel_rfl) (by simp only [List.toList_toArray, List.drop_succ_cons, List.drop_zero, List.take_succ_cons, List.take_zero]; rfl) (by rfl) ?_)
        | ((with_reducible refine gate_store (t := 30) (p := 4) rfl ?_); refine fr_put H rfl rfl rfl rfl rfl (by repeat (first | exact At.head | apply At.tail)) (by rfl) (by kernel_rfl) (by simp [Value.oneCell']) ?_; intro w4_ H1; replace H := H1; clear H1)
        | fail)
      cases r
      all_goals
        go_wp2_with (first
          | (go_at_call 54; (with_reducible refine (HR.out _).mono ?_); rintro e w' ⟨rfl, hb⟩; have H1 := H.call hb; clear hb; replace H := H1; clear H1)
          | ((with_reducible refine gate_dst (N := 2) rfl ?_); refine fr_box H rfl rfl rfl ?_; intro g2 w2 H1; replace H := H1; clear H1)
          | ((with_reducible refine gate_dst (N := 3) rfl ?_); refine fr_box H rfl rfl rfl ?_; intro g3 w3 H1; replace H := H1; clear H1)
          | ((with_reducible refine gate_dst (N := 4) rfl ?_); refine fr_new H (N := 4) rfl rfl (cs := #[.int .i64 0, .int .i64 0, .int .i64 0, .bool false, .int .i64 0, .int .i64 0, .bool false, .slice none 0 0, .int .i64 0, .int .i64 0, .int .i64 0]) (t := 30) ?hr ?_; (case hr => first | (go_simp; done) | (go_simp; rfl)); intro g4 w4 H1; replace H := H1; clear H1)
          | ((with_reducible refine gate_dst (N := 7) rfl ?_); refine fr_get H rfl rfl rfl (by repeat (first | exact At.head | apply At.tail)) Tryz.underlying3 rfl (by simp only [List.getElem?_toArray, List.getElem?_cons_succ, List.getElem?_cons_zero]; rfl) ?_)
          | ((with_reducible refine gate_dst (N := 10) rfl ?_); refine fr_get H rfl rfl rfl (by repeat (first | exact At.head | apply At.tail)) Tryz.underlying3 rfl (by simp only [List.getElem?_toArray, List.getElem?_cons_succ, List.getElem?_cons_zero]; rfl) ?_)
          | ((with_reducible refine gate_store (t := 25) (p := 12) rfl ?_); refine fr_set H (u := .agg (List.toArray _)) rfl rfl rfl rfl rfl (by repeat (first | exact At.head | apply At.tail)) (Nat.le_of_ble_eq_true rfl) (by simp only [Value.cells, List.take_succ_cons, List.take_zero, List.drop_succ_cons, List.drop_zero, List.cons_append, List.nil_append, List.size_toArray, List.length_cons, List.length_nil, Nat.reduceAdd, List.append_nil, List.drop_nil, List.take_nil, List.toList_toArray]; rfl) (by kernel_rfl) (by simp [Value.cells, Value.oneCell']) ?_; intro w12_ H1; replace H := H1; clear H1)
          | ((with_reducible refine gate_dst (N := 14) rfl ?_); refine fr_sub H (n := 2) rfl rfl rfl (by repeat (first | exact At.head | apply At.tail)) Tryz.underlying25 rfl (by kernel_rfl) (by simp only [List.toList_toArray, List.drop_succ_cons, List.drop_zero, List.take_succ_cons, List.take_zero]; rfl) (by rfl) ?_)
          | ((with_reducible refine gate_store (t := 25) (p := 17) rfl ?_); refine fr_set H (u := .agg (List.toArray _)) rfl rfl rfl rfl rfl (by repeat (first | exact At.head | apply At.tail)) (Nat.le_of_ble_eq_true rfl) (by simp only [Value.cells, List.take_succ_cons, List.take_zero, List.drop_succ_cons, List.drop_zero, List.cons_append, List.nil_append, List.size_toArray, List.length_cons, List.length_nil, Nat.reduceAdd, List.append_nil, List.drop_nil, List.take_nil, List.toList_toArray]; rfl) (by kernel_rfl) (by simp [Value.cells, Value.oneCell']) ?_; intro w17_ H1; replace H := H1; clear H1)
          | ((with_reducible refine gate_store (t := 4) (p := 18) rfl ?_); refine fr_set H (u := .bool _) rfl rfl rfl rfl rfl (by repeat (first | exact At.head | apply At.tail)) (Nat.le_of_ble_eq_true rfl) (by simp only [Value.cells, List.take_succ_cons, List.take_zero, List.drop_succ_cons, List.drop_zero, List.cons_append, List.nil_append, List.size_toArray, List.length_cons, List.length_nil, Nat.reduceAdd, List.append_nil, List.drop_nil, List.take_nil, List.toList_toArray]; rfl) (by kernel_rfl) (by simp [Value.cells, Value.oneCell']) ?_; intro w18_ H1; replace H := H1; clear H1)
          | ((with_reducible refine gate_dst (N := 36) rfl ?_); refine fr_get H rfl rfl rfl (by repeat (first | exact At.head | apply At.tail)) Tryz.underlying3 rfl (by simp only [List.getElem?_toArray, List.getElem?_cons_succ, List.getElem?_cons_zero]; rfl) ?_)
          | ((with_reducible refine gate_store (t := 3) (p := 38) rfl ?_); refine fr_set H (u := .int .i64 _) rfl rfl rfl rfl rfl (by repeat (first | exact At.head | apply At.tail)) (Nat.le_of_ble_eq_true rfl) (by simp only [Value.cells, List.take_succ_cons, List.take_zero, List.drop_succ_cons, List.drop_zero, List.cons_append, List.nil_append, List.size_toArray, List.length_cons, List.length_nil, Nat.reduceAdd, List.append_nil, List.drop_nil, List.take_nil, List.toList_toArray]; rfl) (by kernel_rfl) (by simp [Value.cells, Value.oneCell']) ?_; intro w38_ H1; replace H := H1; clear H1)
          | ((with_reducible refine gate_dst (N := 40) rfl ?_); refine fr_get H rfl rfl rfl (by repeat (first | exact At.head | apply At.tail)) Tryz.underlying26 rfl (by simp only [List.getElem?_toArray, List.getElem?_cons_succ, List.getElem?_cons_zero]; rfl) ?_)
          | ((with_reducible refine gate_store (t := 26) (p := 42) rfl ?_); refine fr_set H (u := .slice _ _ _) rfl rfl rfl rfl rfl (by repeat (first | exact At.head | apply At.tail)) (Nat.le_of_ble_eq_true rfl) (by simp only [Value.cells, List.take_succ_cons, List.take_zero, List.drop_succ_cons, List.drop_zero, List.cons_append, List.nil_append, List.size_toArray, List.length_cons, List.length_nil, Nat.reduceAdd, List.append_nil, List.drop_nil, List.take_nil, List.toList_toArray]; rfl) (by kernel_rfl) (by simp [Value.cells, Value.oneCell']) ?_; intro w42_ H1; replace H := H1; clear H1)
          | ((with_reducible refine gate_dst (N := 44) rfl ?_); refine fr_get H rfl rfl rfl (by repeat (first | exact At.head | apply At.tail)) Tryz.underlying26 rfl (by simp only [List.getElem?_toArray, List.getElem?_cons_succ, List.getElem?_cons_zero]; rfl) ?_)
          | ((with_reducible refine gate_store (t := 26) (p := 47) rfl ?_); refine fr_set H (u := .slice _ _ _) rfl rfl rfl rfl rfl (by repeat (first | exact At.head | apply At.tail)) (Nat.le_of_ble_eq_true rfl) (by simp only [Value.cells, List.take_succ_cons, List.take_zero, List.drop_succ_cons, List.drop_zero, List.cons_append, List.nil_append, List.size_toArray, List.length_cons, List.length_nil, Nat.reduceAdd, List.append_nil, List.drop_nil, List.take_nil, List.toList_toArray]; rfl) (by kernel_rfl) (by simp [Value.cells, Value.oneCell']) ?_; intro w47_ H1; replace H := H1; clear H1)
          | ((with_reducible refine gate_dst (N := 49) rfl ?_); refine fr_sub H (n := 2) rfl rfl rfl (by repeat (first | exact At.head | apply At.tail)) Tryz.underlying28 rfl (by kernel_rfl) (by simp only [List.toList_toArray, List.drop_succ_cons, List.drop_zero, List.take_succ_cons, List.take_zero]; rfl) (by rfl) ?_)
          | ((with_reducible refine gate_dst (N := 53) rfl ?_); refine fr_get H rfl rfl rfl (by repeat (first | exact At.head | apply At.tail)) Tryz.underlying3 rfl (by simp only [List.getElem?_toArray, List.getElem?_cons_succ, List.getElem?_cons_zero]; rfl) ?_)
          | ((with_reducible refine gate_store (t := 28) (p := 55) rfl ?_); refine fr_set H (u := .agg (List.toArray _)) rfl rfl rfl rfl rfl (by repeat (first | exact At.head | apply At.tail)) (Nat.le_of_ble_eq_true rfl) (by simp only [Value.cells, List.take_succ_cons, List.take_zero, List.drop_succ_cons, List.drop_zero, List.cons_append, List.nil_append, List.size_toArray, List.length_cons, List.length_nil, Nat.reduceAdd, List.append_nil, List.drop_nil, List.take_nil, List.toList_toArray]; rfl) (by kernel_rfl) (by simp [Value.cells, Value.oneCell']) ?_; intro w55_ H1; replace H := H1; clear H1)
          | ((with_reducible refine gate_dst (N := 56) rfl ?_); refine fr_sub H (n := 11) rfl rfl rfl (by repeat (first | exact At.head | apply At.tail)) Tryz.underlying30 rfl (by kernel_rfl) (by simp only [List.toList_toArray, List.drop_succ_cons, List.drop_zero, List.take_succ_cons, List.take_zero]; rfl) (by rfl) ?_)
          | ((with_reducible refine gate_store (t := 30) (p := 4) rfl ?_); refine fr_put H rfl rfl rfl rfl rfl (by repeat (first | exact At.head | apply At.tail)) (by rfl) (by kernel_rfl) (by simp [Value.oneCell']) ?_; intro w4_ H1; replace H := H1; clear H1)
          | fail)
        refine bodyPost_ret (results_c rfl _ _ g4 30 _ (0, 0) _ rfl (H.of (by repeat (first | exact At.head | apply At.tail))) Tryz.underlying30 rfl (by kernel_rfl)) rfl ?_
        first
          | exact ⟨none, 0, rfl, World.ownsRow_nil _ _ _ _, H.below⟩
          | exact ⟨A1, c1, by rw [HN.out], by rw [HN.out]; exact H.now.2, H.below⟩
theorem Tr_own {D : Nat → Prop} {W : World} {b b' : Nat} {e : TypeId} {sz n c : Nat} {A : Option Addr} {xs : List Value} (h : W.ownsRow b e sz (.slice A n c) n xs) (hb : b' ≤ b) (hD : ∀ k ad, D k → A = some ad → k ≠ ad.block) : Tr D W (fun W1 => W1.ownsRow b' e sz (.slice A n c) n xs) := by
  intro W1 hW
  refine ⟨h.1, ?_⟩
  rcases h.2 with h2 | ⟨g, cap, cur, h2, h3, h4, h5⟩
  · exact .inl h2
  · refine .inr ⟨g, cap, cur, h2, Nat.le_trans hb h3, ?_, h5⟩
    injection h2 with e1
    rw [hW g (fun hk => hD g _ hk e1 rfl) (Go.Proofs.YtbmfgcekglgliaaGreatEm.obj_lt h4)]
    exact h4
theorem own_lo {W : World} {b : Nat} {e : TypeId} {sz n c : Nat} {A : Option Addr} {xs : List Value} (h : W.ownsRow b e sz (.slice A n c) n xs) (ad : Addr) (ha : A = some ad) : b ≤ ad.block ∧ ad.block < W.heap.size := by
  rcases h.2 with ⟨h2, _⟩ | ⟨g, cap, cur, h2, h3, h4, h5⟩
  · injection h2 with e1
    rw [ha] at e1
    cases e1
  · injection h2 with e1
    rw [ha] at e1
    cases e1
    exact ⟨h3, Go.Proofs.YtbmfgcekglgliaaGreatEm.obj_lt h4⟩
set_option maxRecDepth 100000 in
set_option maxHeartbeats 8000000 in
theorem New_calls (p : Par) (me : Int) (s : St) (A : Option Addr) (c : Nat) (w : World) (hr : Kd.C k58 w A s.tab.length s.tab) (hl : s.tab.length ≤ 4096) :
    Calls Tryz.prog 7 #[.agg #[.int .i64 p.N, .int .i64 p.F, .int .i64 p.D, .int .i64 p.Be, .int .i64 p.Rho, .int .i64 p.De, .int .i64 p.Ji, .int .i64 p.Eps, .int .i64 p.Mu, .int .i64 p.Ho, .int .i64 p.Pu, .int .i64 p.Se], .int .i64 me, .agg #[.int .i64 s.lo, .int .i64 s.hi, .int .i64 s.time, .bool s.set, .int .i64 s.held, .int .i64 s.hops, .bool s.good, .slice A s.tab.length c, .int .i64 s.st, .int .i64 s.sn, .int .i64 s.life]] w fun e w' => ∃ g A' c', e = .returned (.pointer (some ⟨g, 0, none⟩)) ∧ w.heap.size ≤ g ∧ w'.heap[g]? = some (.cells #[.int .i64 p.N, .int .i64 p.F, .int .i64 p.D, .int .i64 p.Be, .int .i64 p.Rho, .int .i64 p.De, .int .i64 p.Ji, .int .i64 p.Eps, .int .i64 p.Mu, .int .i64 p.Ho, .int .i64 p.Pu, .int .i64 p.Se, .int .i64 (saneS p.D s).lo, .int .i64 (saneS p.D s).hi, .int .i64 (saneS p.D s).time, .bool (saneS p.D s).set, .int .i64 (saneS p.D s).held, .int .i64 (saneS p.D s).hops, .bool (saneS p.D s).good, .slice A' (saneS p.D s).tab.length c', .int .i64 (saneS p.D s).st, .int .i64 (saneS p.D s).sn, .int .i64 (saneS p.D s).life, .int .i64 me] 41 (0, 0)) ∧ w'.ownsRow w.heap.size 58 2 (.slice A' (saneS p.D s).tab.length c') (saneS p.D s).tab.length (flL (saneS p.D s).tab) ∧ (∀ ad, A' = some ad → ad.block ≠ g) ∧ Below w.heap.size w w' := by
  have H := Fr.start0 (M := fun _ => False) (A := fun _ => False) (w := w) (p := fun W => Kd.C k58 W A s.tab.length s.tab) (fun _ h => h.elim) (Go.Proofs.YtbmfgcekglgliaaGreatEv.Tr.of_C hr k58_heap)
  have HSN := Lib.hid (fun W h => Sane_calls p s A c W h hl)
  obtain ⟨z, hz⟩ : ∃ z, saneS p.D s = z := ⟨_, rfl⟩
  rw [hz] at HSN ⊢
  obtain ⟨lo, hi, time, set, held, hops, good, tab, st, sn, life⟩ := s
  obtain ⟨zlo, zhi, ztime, zset, zheld, zhops, zgood, ztab, zst, zsn, zlife⟩ := z
  obtain ⟨bn, bf, D, be, rho, de, ji, eps, mu, ho, pu, se⟩ := p
  dsimp only at HSN H hl hr ⊢
  obtain ⟨n, hn⟩ : ∃ n, tab.length = n := ⟨_, rfl⟩
  have HN := Lib.hid hn
  rw [hn] at HSN ⊢
  rw [hn] at H
  clear hr hl hn hz
  go_enter Tryz.func7, Tryz.ntmps7
  go_wp2_with (first
    | ((with_reducible refine gate_dst (N := 3) rfl ?_); refine fr_box H rfl rfl rfl ?_; intro g3 w3 H1; replace H := H1; clear H1)
    | ((with_reducible refine gate_dst (N := 5) rfl ?_); refine fr_box H rfl rfl rfl ?_; intro g5 w5 H1; replace H := H1; clear H1)
    | fail)
  refine ro_start (Frs _ _ _ _ _) [7] [0, 1, 2, 5, 3, 4, 6, 7, 8] 9 (by kernel_rfl) (by rfl) (by simp only [pickR, List.getElem?_cons_succ, List.getElem?_cons_zero]; rfl) (by rfl) (H.drewN 1) (fun HS => ?_)
  have H1 : Fr _ _ _ _ _ _ := HS
  clear HS H
  have H := H1
  clear H1
  repeat (first
    | ((with_reducible refine rz_call (f := 19) rfl ?_); refine ro_call 19 _ rfl (by kernel_rfl) (by kernel_rfl) (by rfl) Tryz.func19 (by kernel_rfl) rfl (by simp only [List.map_toArray, List.map_cons, List.map_nil]; rfl) ?_; (refine (HSN.out _ H.now).mono ?_); rintro e w' ⟨A1, c1, rfl, ho, hb⟩; have HT := Tr_row H.avs H.chg.size ho; have H2 := H.call2 hb HT; have H1 := H.call hb; refine ⟨_, rfl, H1, fun _ => ?_⟩; have HO := Lib.hid (own_lo ho); clear hb ho HT H1 H; have H := H2; clear H2; (try simp only [Act.put, lsA, lsZ, lsS, Nat.reduceAdd]))
    | ((with_reducible refine rz_load (ty := 23) rfl ?_); refine ro_sub H (m := 12) rfl (by kernel_rfl) (fun _ _ _ h => h) (by rfl) (by rfl) (by repeat (first | exact At.head | apply At.tail)) Tryz.underlying23 rfl (by kernel_rfl) (by simp only [List.toList_toArray, List.drop_succ_cons, List.drop_zero, List.take_succ_cons, List.take_zero]; rfl) (by rfl) ?_; (try simp only [Act.put, lsA, lsZ, lsS, Nat.reduceAdd]))
    | ((with_reducible refine rz_load (ty := 30) rfl ?_); refine ro_sub H (m := 11) rfl (by kernel_rfl) (fun _ _ _ h => h) (by rfl) (by rfl) (by repeat (first | exact At.head | apply At.tail)) Tryz.underlying30 rfl (by kernel_rfl) (by simp only [List.toList_toArray, List.drop_succ_cons, List.drop_zero, List.take_succ_cons, List.take_zero]; rfl) (by rfl) ?_; (try simp only [Act.put, lsA, lsZ, lsS, Nat.reduceAdd]))
    | ((with_reducible refine rz_dst (N := 14) rfl ?_); refine ro_box H rfl (by kernel_rfl) (by kernel_rfl) (by rfl) (by rfl) ?_; intro g14 w1 hg14 H1; replace H := H1; clear H1; (try simp only [Act.put, lsA, lsZ, lsS, Nat.reduceAdd]))
    | (refine ro_off (by kernel_rfl) (fun _ _ _ h => h) (by rfl) ?_; (try simp only [Act.put, lsA, lsZ, lsS, Nat.reduceAdd]))
    | (refine ro_pure (by kernel_rfl) (fun _ _ _ h => h) (by rfl) (fun W K hK => by go_simp; exact hK.out) ?_; (try simp only [Act.put, lsA, lsZ, lsS, Nat.reduceAdd])))
  refine ro_done (by kernel_rfl) ?_
  go_wp2
  go_ret
  exact ⟨g14, A1, c1, rfl, (H.blk _ List.mem_cons_self).2.resolve_right id, H.of At.head, H.now.2, fun ad ha => by have := (HO.out ad ha).2; omega, H.below⟩
end Go.Proofs.YtbmfgcekglgliaaGreat.G

namespace Go.Proofs.YtbmfgcekglgliaaGreatRo
open Go.Proofs.YtbmfgcekglgliaaGreatW.PrintWords Go.ChangeShapes Go.WideShapes
structure Opn {α : Type} (P : Program) (d : Kd α) (t : TypeId) (wf : α → Prop) : Prop where
  sz : P.cellsOf t = d.sz
  op : ∀ {H : Type} {enc : TypeId × Value → H} {w : World} {base : Nat} {spare : Nat → Bool} {held : Bool} {fuel : Nat} {cs : List Value} {x : DataW H × List MemPlace},
    DataW.trod enc P w base spare held fuel t cs = some x → (∀ n ∈ x.1.weights P t, n ≤ reachBytes) → ∃ a : α, d.K w a cs ∧ wf a
theorem Opn.int {P : Program} {t : TypeId} {k : IntKind} (ht : P.underlying t = some (.int k)) (hc : P.cellsOf t = 1) : Opn P (Kd.int k) t (fun n => (Lit.int k n).wf = true) := by
  refine ⟨hc, ?_⟩
  intro H enc w base spare held fuel cs x h _
  obtain ⟨n, rfl, _, hw⟩ := DataW.trod_int ht h
  exact ⟨n, rfl, hw⟩
theorem Opn.bool {P : Program} {t : TypeId} (ht : P.underlying t = some .bool) (hc : P.cellsOf t = 1) : Opn P Kd.bool t (fun _ => True) := by
  refine ⟨hc, ?_⟩
  intro H enc w base spare held fuel cs x h _
  obtain ⟨n, rfl, _⟩ := DataW.trod_bool ht h
  exact ⟨n, rfl, trivial⟩
theorem list_of {α : Type} {Q : Nat → α → Prop} : ∀ (n : Nat), (∀ i, i < n → ∃ a, Q i a) → ∃ xs : List α, xs.length = n ∧ ∀ i p, xs[i]? = some p → Q i p := by
  intro n
  induction n with
  | zero => intro _; exact ⟨[], rfl, fun i p h => by simp at h⟩
  | succ n ih =>
    intro h
    obtain ⟨xs, hl, hx⟩ := ih (fun i hi => h i (by omega))
    obtain ⟨a, ha⟩ := h n (by omega)
    refine ⟨xs ++ [a], by simp [hl], fun i p hp => ?_⟩
    rcases Nat.lt_or_ge i n with hi | hi
    · rw [List.getElem?_append_left (by omega)] at hp
      exact hx i p hp
    · rw [List.getElem?_append_right (by omega)] at hp
      have hi' : i - xs.length = 0 := by
        have := (List.getElem?_eq_some_iff.1 hp).1
        simpa using this
      rw [hi'] at hp
      have e : a = p := by simpa using hp
      subst e
      have : i = n := by omega
      subst this
      exact ha
theorem weights_all {H : Type} {P : Program} {e : TypeId} : ∀ {l : List (DataW H)} {d : DataW H}, d ∈ l → ∀ n ∈ d.weights P e, n ∈ DataW.weightsAll P e l := by
  intro l
  induction l with
  | nil => intro d h; simp at h
  | cons a l ih =>
    intro d h n hn
    simp only [DataW.weightsAll, List.mem_append]
    rcases List.mem_cons.1 h with rfl | h
    · exact .inl hn
    · exact .inr (ih h n hn)
theorem Opn.slice {α : Type} {P : Program} {t e : TypeId} {d : Kd α} {wf : α → Prop} {B : Nat} (ht : P.underlying t = some (.slice e)) (hc : P.cellsOf t = 1) (hB : P.bytesOf e = B) (hd : Opn P d e wf) :
    Opn P (Kd.slice e d) t (fun xs => xs.length ≤ maxLen ∧ xs.length * B ≤ 140737488351232 ∧ ∀ x ∈ xs, wf x) := by
  refine ⟨hc, ?_⟩
  intro H enc w base spare held fuel cs x h hs
  rcases DataW.trod_slice ht h with ⟨rfl, rfl⟩ | ⟨a, len, cap, elems, rest, m, _, rfl, rfl, hb, hl, hm, hlen, hel, _, _⟩
  · exact ⟨[], ⟨none, 0, rfl, Nat.le_refl _, rfl, by simp, fun h => by simp at h⟩, by simp, by simp, by simp⟩
  · have each : ∀ i, i < len → ∃ p : α, (∃ c, c.length = d.sz ∧ d.K w p c ∧ ∀ j u, c[j]? = some u → w.cell? (a.add (i * d.sz + j)) = some u) ∧ wf p := by
      intro i hi
      have hy : elems[i]? = some (elems[i]'(by omega)) := List.getElem?_eq_getElem (by omega)
      have hb' := hel i hi
      rw [hy, Option.bind_eq_some_iff] at hb'
      obtain ⟨c, hcs, hy'⟩ := hb'
      have hws : ∀ n ∈ (elems[i]'(by omega)).1.weights P e, n ≤ reachBytes := by
        intro n hn
        refine hs n ?_
        simp only [DataW.weights, ht, List.mem_cons, List.mem_append]
        exact .inr (.inl (weights_all (List.mem_map_of_mem (List.getElem_mem (by omega))) n hn))
      obtain ⟨p, hK, hw⟩ := hd.op hy' hws
      refine ⟨p, ⟨c, d.K_len hK, hK, ?_⟩, hw⟩
      intro j u hu
      obtain ⟨_, h2, h3⟩ := World.cells?_some hcs
      have hj : j < P.cellsOf e := by have := (List.getElem?_eq_some_iff.1 hu).1; omega
      have h4 := h3 j hj
      rw [hu, hd.sz] at h4
      rw [← h4, add_add]
    obtain ⟨xs, hxl, hxs⟩ := list_of len each
    subst hxl
    have hm' : cap ≤ 9223372036854775807 := hm
    refine ⟨xs, ⟨some a, cap, rfl, hl, rfl, by omega, fun _ => ⟨a, rfl, fun j p hj => (hxs j p hj).1⟩⟩, by omega, ?_, ?_⟩
    · have z := hs ((elems.length + rest.length) * P.bytesOf e) (by simp [DataW.weights, ht])
      rw [hB] at z
      exact Nat.le_trans (Nat.mul_le_mul_right _ (by omega)) z
    · intro p hp
      obtain ⟨i, hi⟩ := List.getElem?_of_mem hp
      exact (hxs i p hi).2
theorem Opn.iso {α β : Type} {P : Program} {t : TypeId} {d : Kd α} {wf : α → Prop} (f : β → α) (g : α → β) (hfg : ∀ x, f (g x) = x) (h : Opn P d t wf) : Opn P (Kd.iso d f) t (fun y => wf (f y)) := by
  refine ⟨h.sz, ?_⟩
  intro H enc w base spare held fuel cs x hx hs
  obtain ⟨a, hK, hw⟩ := h.op hx hs
  exact ⟨g a, by show d.K w (f (g a)) cs; rw [hfg]; exact hK, by show wf (f (g a)); rw [hfg]; exact hw⟩
structure OpnF {α : Type} (P : Program) (d : Kd α) (fs : List Field) (off : Nat) (wf : α → Prop) : Prop where
  op : ∀ {H : Type} {enc : TypeId × Value → H} {w : World} {base : Nat} {spare : Nat → Bool} {held : Bool} {m : Nat} {cs : List Value} {xs : List (DataW H × List MemPlace)},
    xs.length = fs.length → (∀ (i : Nat) (f : Field), fs[i]? = some f → DataW.trod enc P w base spare held m f.type ((cs.drop f.offset).take (P.cellsOf f.type)) = xs[i]?) →
    (∀ n ∈ DataW.weightsEach P (fs.map (·.type)) (xs.map (·.1)), n ≤ reachBytes) → ∃ a : α, d.K w a ((cs.drop off).take d.sz) ∧ wf a
theorem OpnF.one {α : Type} {P : Program} {d : Kd α} {f : Field} {off : Nat} {wf : α → Prop} (h : Opn P d f.type wf) (ho : f.offset = off) : OpnF P d [f] off wf := by
  refine ⟨?_⟩
  intro H enc w base spare held m cs xs hl hx hs
  match xs, hl with
  | [y], _ =>
    have h0 := hx 0 f rfl
    rw [ho, h.sz] at h0
    exact h.op h0 (fun n hn => hs n (by simp [DataW.weightsEach, hn]))
theorem OpnF.cons {α β : Type} {P : Program} {a : Kd α} {b : Kd β} {f : Field} {fs : List Field} {off : Nat} {wa : α → Prop} {wb : β → Prop} (h : Opn P a f.type wa) (ho : f.offset = off) (hr : OpnF P b fs (off + a.sz) wb) :
    OpnF P (Kd.pair a b) (f :: fs) off (fun x => wa x.1 ∧ wb x.2) := by
  refine ⟨?_⟩
  intro H enc w base spare held m cs xs hl hx hs
  match xs, hl with
  | y :: ys, hl =>
    have h0 := hx 0 f rfl
    rw [ho, h.sz] at h0
    obtain ⟨x, hK, hw⟩ := h.op h0 (fun n hn => hs n (by simp [DataW.weightsEach, hn]))
    obtain ⟨z, hK2, hw2⟩ := hr.op (xs := ys) (cs := cs) (by simpa using hl) (fun i f' hf => hx (i + 1) f' hf) (fun n hn => hs n (by
      simp only [List.map_cons, DataW.weightsEach, List.mem_append]
      exact .inr hn))
    refine ⟨(x, z), ⟨_, _, ?_, hK, hK2⟩, hw, hw2⟩
    show (cs.drop off).take (a.sz + b.sz) = _
    rw [List.take_add, List.drop_drop]
theorem Opn.struct {α : Type} {P : Program} {d : Kd α} {t : TypeId} {fs : Array Field} {wf : α → Prop} (ht : P.underlying t = some (.struct fs)) (hc : P.cellsOf t = d.sz) (h : OpnF P d fs.toList 0 wf) : Opn P d t wf := by
  refine ⟨hc, ?_⟩
  intro H enc w base spare held fuel cs x hx hs
  obtain ⟨xs, n, _, rfl, hl, hxl, hf⟩ := DataW.trod_struct ht hx
  obtain ⟨a, hK, hw⟩ := h.op (xs := xs) (cs := cs) (by simpa using hxl) (fun i f hi => hf i f (by simpa using hi)) (fun n hn => hs n (by simpa [DataW.weights, ht] using hn))
  refine ⟨a, ?_, hw⟩
  rw [List.drop_zero, ← hc, ← hl, List.take_length] at hK
  exact hK
theorem open_any {α : Type} {P : Program} {d : Kd α} {t : TypeId} {wf : α → Prop} (ho : Opn P d t wf) {H : Type} {enc : TypeId × Value → H} {w : World} {base : Nat} {spare : Nat → Bool} {held : Bool} {v : Value} {x : DataW H} {ps : List MemPlace} {ts : List TypeId} {ds : List (DataW H)} {j : Nat}
    (hsz : (DataW.weightsEach P ts ds).all (· ≤ reachBytes) = true) (ht : ts[j]? = some t) (hd : ds[j]? = some x) (h : DataW.Trod enc P w base spare held t v x ps) : ∃ a : α, d.K w a v.cells.toList ∧ wf a := by
  obtain ⟨fuel, hf⟩ := h
  exact ho.op hf (fun n hn => by simpa using List.all_eq_true.1 hsz n (DataW.weights_mem_each ht hd n hn))
theorem trod_lt' {H : Type} {enc : TypeId × Value → H} {P : Program} {w : World} {base : Nat} {spare : Nat → Bool} {held : Bool} {t : TypeId} {v : Value} {x : DataW H} {ps : List MemPlace} (h : DataW.Trod enc P w base spare held t v x ps) : ∀ y ∈ ps, y.block < w.heap.size := by
  obtain ⟨m, hm⟩ := h
  exact DataW.trod_lt m _ _ _ hm
theorem agg_cells {P : Program} {w : World} {r : Reach} {base : Nat} {t : TypeId} {v : Value} {fs : Array Field} {l : List Value} (hu : P.underlying t = some (.struct fs)) (hv : Value.okWide P w r base t v) (hl : v.cells.toList = l) : v = .agg l.toArray := by
  obtain ⟨cs, rfl, _⟩ := okWide_struct hu hv
  subst hl
  rfl
end Go.Proofs.YtbmfgcekglgliaaGreatRo
