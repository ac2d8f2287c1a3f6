/- Texts Yf, Yg, X1, Sl, So, Fg, in one file, without what is not needed here. -/
import Derived.Shelf.Sort.Plain
import Derived.Shelf.Slices.In.SortNone
import Derived.Ground.Names2Prog
import Derived.Test.YtbmfgcekglgliaaGreatProg
import Derived.RangeFuncBox
import Derived.RangeFuncWrites
import Derived.RangeFuncLeaves
import Derived.RangeFuncKeeps
import Derived.Shelf.Abstract
import Derived.WalkKit
import Derived.OwnWalkIn
import Derived.TacticsInMore
import Derived.LoopNIn
import Derived.LoopIn
import Derived.Maps.AppendAt
import Derived.Sort.OwnSortedInts
import Derived.Test.YtbmfgcekglgliaaGreatZGateKeeps5
namespace Go.Proofs.YtbmfgcekglgliaaGreat.G
open Go.RowKit Go.Proofs.YtbmfgcekglgliaaGreatW.PrintWords Go.Proofs.YtbmfgcekglgliaaGreatW.PrintLast Go.Proofs.YtbmfgcekglgliaaGreatW.PrintMore Go.Proofs.YtbmfgcekglgliaaGreatPl Go.Proofs.YtbmfgcekglgliaaGreatEm Go.Proofs.YtbmfgcekglgliaaGreatKr Go.Proofs.YtbmfgcekglgliaaGreat.X
set_option linter.unusedVariables false
set_option linter.unusedSimpArgs false
theorem tbI_len : ∀ (l : List Lp) (i : Nat) (pv off : Int), tbI i pv off l = true → l = [] ∨ i + l.length ≤ 32
  | [], _, _, _, _ => .inl rfl
  | x :: l, i, pv, off, h => by
    have e : tbI i pv off (x :: l) = (decide (i < 32) && inP x.f0 0 1099511627776 && inP x.f1 (-32) 32 && (decide (i = 0) || decide (86400 ≤ x.f0 - pv)) && (decide (x.f1 - off = 1) || decide (x.f1 - off = -1)) && tbI (i + 1) x.f0 x.f1 l) := rfl
    rw [e] at h
    simp only [Bool.and_eq_true, decide_eq_true_eq] at h
    have h1 := h.1.1.1.1.1
    refine .inr ?_
    rw [List.length_cons]
    rcases tbI_len l (i + 1) x.f0 x.f1 h.2 with h2 | h2
    · subst h2; simp; omega
    · omega
theorem tb_long {l : List Lp} (h : 32 < l.length) : tb l = false := by
  cases h1 : tb l with
  | false => rfl
  | true =>
    rcases tbI_len l 0 0 0 h1 with h2 | h2
    · subst h2; simp at h
    · omega
theorem rfit_cases (ki pv off x0 x1 pw o1 o2 : Int) (f : Bool) (hw : pv + 86400 = pw) (h1 : off + 1 = o1) (h2 : off - 1 = o2) (hf : (inP x0 0 1099511627776 && inP x1 (-32) 32 && (decide (ki = 0) || decide (86400 ≤ x0 - pv)) && (decide (x1 - off = 1) || decide (x1 - off = -1))) = f) (h0 : 0 ≤ ki) :
    (f = false ∧ decide (x0 < 0) = true) ∨ (f = false ∧ decide (x0 < 0) = false ∧ decide (1099511627776 < x0) = true) ∨ (f = false ∧ decide (x0 < 0) = false ∧ decide (1099511627776 < x0) = false ∧ decide (x1 < -32) = true) ∨
    (f = false ∧ decide (x0 < 0) = false ∧ decide (1099511627776 < x0) = false ∧ decide (x1 < -32) = false ∧ decide (32 < x1) = true) ∨
    (decide (x0 < 0) = false ∧ decide (1099511627776 < x0) = false ∧ decide (x1 < -32) = false ∧ decide (32 < x1) = false ∧ f = false ∧ decide (0 < ki) = true ∧ decide (x0 < pw) = true) ∨
    (decide (x0 < 0) = false ∧ decide (1099511627776 < x0) = false ∧ decide (x1 < -32) = false ∧ decide (32 < x1) = false ∧ f = false ∧ decide (0 < ki) = false ∧ (x1 != o1) = true ∧ (x1 != o2) = true) ∨
    (decide (x0 < 0) = false ∧ decide (1099511627776 < x0) = false ∧ decide (x1 < -32) = false ∧ decide (32 < x1) = false ∧ f = false ∧ decide (0 < ki) = true ∧ decide (x0 < pw) = false ∧ (x1 != o1) = true ∧ (x1 != o2) = true) ∨
    (decide (x0 < 0) = false ∧ decide (1099511627776 < x0) = false ∧ decide (x1 < -32) = false ∧ decide (32 < x1) = false ∧ f = true ∧ decide (0 < ki) = false ∧ (x1 != o1) = false) ∨
    (decide (x0 < 0) = false ∧ decide (1099511627776 < x0) = false ∧ decide (x1 < -32) = false ∧ decide (32 < x1) = false ∧ f = true ∧ decide (0 < ki) = false ∧ (x1 != o1) = true ∧ (x1 != o2) = false) ∨
    (decide (x0 < 0) = false ∧ decide (1099511627776 < x0) = false ∧ decide (x1 < -32) = false ∧ decide (32 < x1) = false ∧ f = true ∧ decide (0 < ki) = true ∧ decide (x0 < pw) = false ∧ (x1 != o1) = false) ∨
    (decide (x0 < 0) = false ∧ decide (1099511627776 < x0) = false ∧ decide (x1 < -32) = false ∧ decide (32 < x1) = false ∧ f = true ∧ decide (0 < ki) = true ∧ decide (x0 < pw) = false ∧ (x1 != o1) = true ∧ (x1 != o2) = false) := by
  have e1 : inP x0 0 1099511627776 = (!decide (x0 < 0) && !decide (1099511627776 < x0)) := by unfold inP; rw [Bool.eq_iff_iff]; simp [Int.not_lt]
  have e2 : inP x1 (-32) 32 = (!decide (x1 < -32) && !decide (32 < x1)) := by unfold inP; rw [Bool.eq_iff_iff]; simp [Int.not_lt]
  have e3 : decide (ki = 0) = !decide (0 < ki) := by rw [Bool.eq_iff_iff]; simp; omega
  have e4 : decide (86400 ≤ x0 - pv) = !decide (x0 < pw) := by rw [Bool.eq_iff_iff]; simp; omega
  have e5 : decide (x1 - off = 1) = !(x1 != o1) := by rw [Bool.eq_iff_iff]; simp; omega
  have e6 : decide (x1 - off = -1) = !(x1 != o2) := by rw [Bool.eq_iff_iff]; simp; omega
  rw [e1, e2, e3, e4, e5, e6] at hf
  subst hf
  generalize decide (x0 < 0) = a
  generalize decide (1099511627776 < x0) = b
  generalize decide (x1 < -32) = c
  generalize decide (32 < x1) = d
  generalize decide (0 < ki) = e
  generalize decide (x0 < pw) = f
  generalize (x1 != o1) = g
  generalize (x1 != o2) = h
  cases a <;> cases b <;> cases c <;> cases d <;> cases e <;> cases f <;> cases g <;> cases h <;> simp
set_option maxRecDepth 100000 in
set_option maxHeartbeats 8000000 in
theorem RWTable_calls (A : Option Addr) (c : Nat) (l : List Lp) (w : World) (hr : Kd.C k58 w A l.length l) :
    Calls Tryz.prog 55 #[.slice A l.length c] w fun e w' => e = .returned (.bool (tb l)) ∧ Below w.heap.size w w' := by
  have hm : l.length ≤ 9223372036854775807 := hr.2.1
  have H := Fr.start0 (M := fun _ => False) (A := fun _ => False) (w := w) (p := fun W => Kd.C k58 W A l.length l) (fun _ h => h.elim) (Go.Proofs.YtbmfgcekglgliaaGreatEv.Tr.of_C hr k58_heap)
  obtain ⟨n, hn⟩ : ∃ n, l.length = n := ⟨_, rfl⟩
  obtain ⟨r, hr'⟩ : ∃ r, tb l = r := ⟨_, rfl⟩
  have HN := Lib.hid hn
  have HT : Hid (tbI 0 0 0 (l.drop 0) = r) := Lib.hid hr'
  by_cases hlong : 32 < n
  · have HF : Hid (r = false) := Lib.hid (by rw [← hr']; exact tb_long (by rw [hn]; exact hlong))
    have hl1 : decide ((32 : Int) < (n : Int)) = true := decide_eq_true (by omega)
    rw [hn] at hm ⊢
    rw [hr']
    clear hr hn hr' hlong
    go_enter Tryz.func55, Tryz.ntmps55
    go_wp2
    go_ret
    exact ⟨(by rw [HF.out]; try rfl), H.below⟩
  have hl1 : decide ((32 : Int) < (n : Int)) = false := decide_eq_false (by omega)
  have hn32 : n ≤ 32 := by omega
  rw [hn] at hm ⊢
  rw [hr']
  clear hr hn hr' hlong
  go_enter Tryz.func55, Tryz.ntmps55
  go_wp2
  go_loopw [3, 11] (fun v3 v11 wr => ∃ (k : Nat) (pv off : Int), k ≤ n ∧ v11 = .int .i64 k ∧ v3 = .int .i64 off ∧ Hid (tbI k pv off (l.drop k) = r) ∧ -32 ≤ off ∧ off ≤ 32 ∧ 0 ≤ pv ∧ pv ≤ 1099511627776 ∧ Hid (0 < k → ∃ h : k - 1 < l.length, (l[k - 1]'h).f0 = pv) ∧ Fr (fun _ => False) (fun _ => False) w wr [] (fun W => Kd.C k58 W A l.length l)) (fun _ v11 _ => n - (intOf v11).toNat)
  case atStart => exact ⟨0, 0, 0, by omega, rfl, rfl, HT, by omega, by omega, by omega, by omega, Lib.hid (fun h => absurd h (by omega)), H⟩
  case round =>
    clear H HT hl1
    obtain ⟨k, pv, off, hk, rfl, rfl, HS, ho1, ho2, hp1, hp2, HP, H⟩ := hrel
    by_cases hlt : k < n
    · have hkl : k < l.length := by rw [HN.out]; exact hlt
      have hk1 : (k : Int) < (n : Int) := by omega
      have hs1 : -9223372036854775808 ≤ (k : Int) + 1 := by omega
      have hs2 : (k : Int) + 1 ≤ 9223372036854775807 := by omega
      obtain ⟨ad, e, hx⟩ := leap_at H.now k hkl
      cases e
      obtain ⟨x, hxe⟩ : ∃ x, l[k] = x := ⟨_, rfl⟩
      have HD : Hid (l.drop k = x :: l.drop (k + 1)) := Lib.hid (by rw [List.drop_eq_getElem_cons hkl, hxe])
      have HX : Hid (∃ h : k < l.length, (l[k]'h).f0 = x.f0) := Lib.hid ⟨hkl, by rw [hxe]⟩
      rw [hxe] at hx
      obtain ⟨x0, x1, e0, e1⟩ : ∃ x0 x1, x.f0 = x0 ∧ x.f1 = x1 := ⟨_, _, rfl, rfl⟩
      obtain ⟨f, hf⟩ : ∃ f, (inP x0 0 1099511627776 && inP x1 (-32) 32 && (decide ((k : Int) = 0) || decide (86400 ≤ x0 - pv)) && (decide (x1 - off = 1) || decide (x1 - off = -1))) = f := ⟨_, rfl⟩
      have HS2 : Hid ((f && tbI (k + 1) x0 x1 (l.drop (k + 1))) = r) := Lib.hid (by
        rw [← HS.out, HD.out]
        show _ = (decide (k < 32) && inP x.f0 0 1099511627776 && inP x.f1 (-32) 32 && (decide (k = 0) || decide (86400 ≤ x.f0 - pv)) && (decide (x.f1 - off = 1) || decide (x.f1 - off = -1)) && tbI (k + 1) x.f0 x.f1 (l.drop (k + 1)))
        rw [e0, e1, ← hf]
        have a1 : decide (k < 32) = true := decide_eq_true (by omega)
        have a2 : decide ((k : Int) = 0) = decide (k = 0) := by rw [Bool.eq_iff_iff]; simp
        rw [a1, a2, Bool.true_and])
      obtain ⟨pw, hpw⟩ : ∃ t, pv + 86400 = t := ⟨_, rfl⟩
      obtain ⟨o1, ho1'⟩ : ∃ t, off + 1 = t := ⟨_, rfl⟩
      obtain ⟨o2, ho2'⟩ : ∃ t, off - 1 = t := ⟨_, rfl⟩
      have hcs := rfit_cases (k : Int) pv off x0 x1 pw o1 o2 f hpw ho1' ho2' hf (by omega)
      rw [e0] at HX
      rw [e0, e1] at hx
      have HC := Lib.hid hx
      have HPV : Hid (∀ W, Kd.C k58 W (some ad) l.length l → W.cell? ((ad.add (((k : Int) - 1).toNat * 2)).add 0) = some (.int .i64 (if 0 < k then pv else ((l.map (·.f0)).getD 0 0)))) := Lib.hid (fun W hW => by
        have hq : ((k : Int) - 1).toNat = k - 1 := by omega
        obtain ⟨ad', e', h⟩ := leap_at hW (k - 1) (by omega)
        cases e'
        rw [hq]
        have h1 := h 0 _ rfl
        by_cases h0 : 0 < k
        · obtain ⟨_, h2⟩ := HP.out h0
          rw [if_pos h0, ← h2]
          exact h1
        · rw [if_neg h0]
          have hk0 : k = 0 := by omega
          subst hk0
          rw [show (l.map (·.f0)).getD 0 0 = l[0].f0 by simp [List.getD_eq_getElem?_getD, hkl]]
          exact h1)
      clear HS HP HD hx hxe e0 e1 hf
      generalize hki : (k : Int) = ki at hk1 hs1 hs2 HPV hcs ⊢
      have HKI := Lib.hid hki
      have hki0 : 0 ≤ ki := by omega
      have HQ : Hid (decide (0 < ki) = true → ∀ W, Kd.C k58 W (some ad) l.length l → W.cell? ((ad.add ((ki - 1).toNat * 2)).add 0) = some (.int .i64 pv)) := Lib.hid (fun h W hW => by
        have h0 : 0 < k := by have := of_decide_eq_true h; omega
        have := HPV.out W hW
        rw [if_pos h0] at this
        exact this)
      have HC1 : Hid (∀ j u, [Value.int .i64 x0, .int .i64 x1][j]? = some u → wr.cell? ((ad.add (ki.toNat * 2)).add j) = some u) := Lib.hid (by rw [show ki.toNat = k by have := HKI.out; omega]; exact HC.out)
      clear hki HPV HC
      obtain ⟨kj, hkj⟩ : ∃ kj, ki - 1 = kj := ⟨_, rfl⟩
      have hw1 : IntKind.i64.wrap (ki - 1) = kj := by rw [IntKind.wrap_i64]; omega
      have hw2 : IntKind.i64.wrap (pv + 86400) = pw := by rw [IntKind.wrap_i64]; omega
      have hw3 : wrap64 (off + 1) = o1 := by unfold wrap64; omega
      have hw4 : wrap64 (off - 1) = o2 := by unfold wrap64; omega
      rw [hkj] at HQ
      have HDD := Lib.hid (And.intro hkj (And.intro hpw (And.intro ho1' ho2')))
      clear hkj hpw
      rcases hcs with ⟨rfl, d1⟩ | ⟨rfl, d1, d2⟩ | ⟨rfl, d1, d2, d3⟩ | ⟨rfl, d1, d2, d3, d4⟩ | ⟨d1, d2, d3, d4, rfl, d5, d6⟩ | ⟨d1, d2, d3, d4, rfl, d5, d6, d7⟩ | ⟨d1, d2, d3, d4, rfl, d5, d6, d7, d8⟩ | ⟨d1, d2, d3, d4, rfl, d5, d6⟩ | ⟨d1, d2, d3, d4, rfl, d5, d6, d7⟩ | ⟨d1, d2, d3, d4, rfl, d5, d6, d7⟩ | ⟨d1, d2, d3, d4, rfl, d5, d6, d7, d8⟩
      iterate 4
        focus
          clear ho1' ho2'
          go_wp2_with (first
            | ((with_reducible refine gate_dst (N := 15) rfl ?_); refine load_cells rfl rfl (ad := ad.add (ki.toNat * 2)) (cs := [.int .i64 x0, .int .i64 x1]) ?hx Tryz.underlying58 rfl (by kernel_rfl) HC1.out ?_; (case hx => first | rfl | (go_simp; done) | (go_simp; rfl)))
            | ((with_reducible refine gate_dst (N := 15) rfl ?_); refine fr_sub H (n := 2) rfl rfl rfl (by repeat (first | exact At.head | apply At.tail)) Tryz.underlying58 rfl (by kernel_rfl) (by simp only [List.toList_toArray, List.drop_succ_cons, List.drop_zero, List.take_succ_cons, List.take_zero]; rfl) (by rfl) ?_)
            | ((with_reducible refine gate_dst (N := 5) rfl ?_); refine fr_new H (N := 5) rfl rfl (cs := #[.int .i64 0, .int .i64 0]) (t := 58) ?hr ?_; (case hr => first | (go_simp; done) | (go_simp; rfl)); intro g5 w5 H1; replace H := H1; clear H1)
            | ((with_reducible refine gate_store (t := 58) (p := 5) rfl ?_); refine fr_put H rfl rfl rfl rfl rfl (by repeat (first | exact At.head | apply At.tail)) (by rfl) (by kernel_rfl) (by simp [Value.oneCell']) ?_; intro w5_ H1; replace H := H1; clear H1)
            | ((with_reducible refine gate_dst (N := 17) rfl ?_); refine fr_get H rfl rfl rfl (by repeat (first | exact At.head | apply At.tail)) Tryz.underlying3 rfl (by simp only [List.getElem?_toArray, List.getElem?_cons_succ, List.getElem?_cons_zero]; rfl) ?_)
            | ((with_reducible refine gate_dst (N := 21) rfl ?_); (try (refine gate_guard (by rfl) ?_; dsimp only)); refine fr_get H rfl rfl rfl (by repeat (first | exact At.head | apply At.tail)) Tryz.underlying3 rfl (by simp only [List.getElem?_toArray, List.getElem?_cons_succ, List.getElem?_cons_zero]; rfl) ?_)
            | ((with_reducible refine gate_dst (N := 26) rfl ?_); (try (refine gate_guard (by rfl) ?_; dsimp only)); refine fr_get H rfl rfl rfl (by repeat (first | exact At.head | apply At.tail)) Tryz.underlying3 rfl (by simp only [List.getElem?_toArray, List.getElem?_cons_succ, List.getElem?_cons_zero]; rfl) ?_)
            | ((with_reducible refine gate_dst (N := 31) rfl ?_); (try (refine gate_guard (by rfl) ?_; dsimp only)); refine fr_get H rfl rfl rfl (by repeat (first | exact At.head | apply At.tail)) Tryz.underlying3 rfl (by simp only [List.getElem?_toArray, List.getElem?_cons_succ, List.getElem?_cons_zero]; rfl) ?_)
            | fail)
          have HF : Hid (r = false) := Lib.hid (by have := HS2.out; simpa using this.symm)
          go_ret
          exact ⟨(by rw [HF.out]; try rfl), H.below⟩
      all_goals
        try have HPV := Lib.hid (HQ.out (by assumption))
        try have hw5 : 0 ≤ kj := by have := of_decide_eq_true ‹decide (0 < ki) = true›; have := HDD.out; omega
        try have hw6 : kj < (n : Int) := by have := HDD.out; omega
        have HB : Hid (0 ≤ x0 ∧ x0 ≤ 1099511627776 ∧ -32 ≤ x1 ∧ x1 ≤ 32) := Lib.hid (by
          have q1 := of_decide_eq_false d1
          have q2 := of_decide_eq_false d2
          have q3 := of_decide_eq_false d3
          have q4 := of_decide_eq_false d4
          omega)
        go_upto_region 9 with (first
          | ((with_reducible refine gate_dst (N := 15) rfl ?_); refine load_cells rfl rfl (ad := ad.add (ki.toNat * 2)) (cs := [.int .i64 x0, .int .i64 x1]) ?hx Tryz.underlying58 rfl (by kernel_rfl) HC1.out ?_; (case hx => first | rfl | (go_simp; done) | (go_simp; rfl)))
          | ((with_reducible refine gate_dst (N := 15) rfl ?_); refine fr_sub H (n := 2) rfl rfl rfl (by repeat (first | exact At.head | apply At.tail)) Tryz.underlying58 rfl (by kernel_rfl) (by simp only [List.toList_toArray, List.drop_succ_cons, List.drop_zero, List.take_succ_cons, List.take_zero]; rfl) (by rfl) ?_)
          | ((with_reducible refine gate_dst (N := 5) rfl ?_); refine fr_new H (N := 5) rfl rfl (cs := #[.int .i64 0, .int .i64 0]) (t := 58) ?hr ?_; (case hr => first | (go_simp; done) | (go_simp; rfl)); intro g5 w5 H1; replace H := H1; clear H1)
          | ((with_reducible refine gate_store (t := 58) (p := 5) rfl ?_); refine fr_put H rfl rfl rfl rfl rfl (by repeat (first | exact At.head | apply At.tail)) (by rfl) (by kernel_rfl) (by simp [Value.oneCell']) ?_; intro w5_ H1; replace H := H1; clear H1)
          | ((with_reducible refine gate_dst (N := 17) rfl ?_); refine fr_get H rfl rfl rfl (by repeat (first | exact At.head | apply At.tail)) Tryz.underlying3 rfl (by simp only [List.getElem?_toArray, List.getElem?_cons_succ, List.getElem?_cons_zero]; rfl) ?_)
          | ((with_reducible refine gate_dst (N := 21) rfl ?_); (try (refine gate_guard (by rfl) ?_; dsimp only)); refine fr_get H rfl rfl rfl (by repeat (first | exact At.head | apply At.tail)) Tryz.underlying3 rfl (by simp only [List.getElem?_toArray, List.getElem?_cons_succ, List.getElem?_cons_zero]; rfl) ?_)
          | ((with_reducible refine gate_dst (N := 26) rfl ?_); (try (refine gate_guard (by rfl) ?_; dsimp only)); refine fr_get H rfl rfl rfl (by repeat (first | exact At.head | apply At.tail)) Tryz.underlying3 rfl (by simp only [List.getElem?_toArray, List.getElem?_cons_succ, List.getElem?_cons_zero]; rfl) ?_)
          | ((with_reducible refine gate_dst (N := 31) rfl ?_); (try (refine gate_guard (by rfl) ?_; dsimp only)); refine fr_get H rfl rfl rfl (by repeat (first | exact At.head | apply At.tail)) Tryz.underlying3 rfl (by simp only [List.getElem?_toArray, List.getElem?_cons_succ, List.getElem?_cons_zero]; rfl) ?_)
          | fail)
        refine ko_region0 H (by kernel_rfl) (by as_aux_lemma => kernel_rfl) (fun HR => ?_)
        repeat (first
          | ((with_reducible refine kg_dst (N := 44) rfl ?_); refine ko_cell rfl (by rfl) (by rfl) Tryz.underlying3 rfl (fun W hC => HPV.out W (HR W hC).now) ?_; (try simp only [Act.put, lsA, lsZ, lsS, Nat.reduceAdd]))
          | ((with_reducible refine kg_load (ty := 3) rfl ?_); refine ko_get HR rfl (by rfl) (by rfl) (by repeat (first | exact At.head | apply At.tail)) Tryz.underlying3 rfl (by simp only [List.getElem?_toArray, List.getElem?_cons_succ, List.getElem?_cons_zero]; rfl) ?_; (try simp only [Act.put, lsA, lsZ, lsS, Nat.reduceAdd]))
          | (refine ko_pure rfl (by rfl) (fun W K hK => by go_simp; exact hK.out) ?_; (try simp only [Act.put, lsA, lsZ, lsS, Nat.reduceAdd]))
          | (refine ko_off (by rfl) ?_; (try simp only [Act.put, lsA, lsZ, lsS, Nat.reduceAdd])))
        refine ko_end ?_
        intro w1 H1
        clear HR H
        have H := H1
        clear H1
        (try simp only [List.map_cons, List.map_nil, cv, List.cons_append, List.nil_append] at H)
        subst ho1' ho2'
        go_wp2_with (first
          | ((with_reducible refine gate_dst (N := 49) rfl ?_); refine fr_get H rfl rfl rfl (by repeat (first | exact At.head | apply At.tail)) Tryz.underlying3 rfl (by simp only [List.getElem?_toArray, List.getElem?_cons_succ, List.getElem?_cons_zero]; rfl) ?_)
          | ((with_reducible refine gate_dst (N := 55) rfl ?_); (try (refine gate_guard (by rfl) ?_; dsimp only)); refine fr_get H rfl rfl rfl (by repeat (first | exact At.head | apply At.tail)) Tryz.underlying3 rfl (by simp only [List.getElem?_toArray, List.getElem?_cons_succ, List.getElem?_cons_zero]; rfl) ?_)
          | ((with_reducible refine gate_dst (N := 61) rfl ?_); refine fr_get H rfl rfl rfl (by repeat (first | exact At.head | apply At.tail)) Tryz.underlying3 rfl (by simp only [List.getElem?_toArray, List.getElem?_cons_succ, List.getElem?_cons_zero]; rfl) ?_)
          | fail)
      any_goals
        have HF : Hid (r = false) := Lib.hid (by have := HS2.out; simpa using this.symm)
        go_ret
        exact ⟨(by rw [HF.out]; try rfl), H.below⟩
      all_goals
        have HSN : Hid (tbI (k + 1) x0 x1 (l.drop (k + 1)) = r) := Lib.hid (by have := HS2.out; simpa using this)
        go_roundw
        case rel =>
          refine ⟨k + 1, x0, x1, by omega, ?_, rfl, HSN, HB.out.2.2.1, HB.out.2.2.2, HB.out.1, HB.out.2.1, Lib.hid (fun _ => by simpa using HX.out), (H.drop).imp (fun _ h => h)⟩
          rw [← HKI.out]
          rfl
        case measure => rw [← HKI.out]; simp [intOf]; omega
    · obtain rfl : k = n := by omega
      have HT := Lib.hid (show r = true by rw [← HS.out, List.drop_eq_nil_of_le (by rw [HN.out]; exact Nat.le_refl _)]; rfl)
      go_wp2
      go_ret
      exact ⟨(by rw [HT.out]; try rfl), H.below⟩
end Go.Proofs.YtbmfgcekglgliaaGreat.G

namespace Go.Proofs.YtbmfgcekglgliaaGreat.G
open Go.RowKit Go.Proofs.YtbmfgcekglgliaaGreatW.PrintWords Go.Proofs.YtbmfgcekglgliaaGreatW.PrintLast Go.Proofs.YtbmfgcekglgliaaGreatW.PrintMore Go.Proofs.YtbmfgcekglgliaaGreatPl Go.Proofs.YtbmfgcekglgliaaGreatEm Go.Proofs.YtbmfgcekglgliaaGreatKr Go.Proofs.YtbmfgcekglgliaaGreat.X
set_option linter.unusedVariables false
set_option linter.unusedSimpArgs false
set_option maxRecDepth 100000 in
set_option maxHeartbeats 8000000 in
theorem RGood_calls (A : Option Addr) (c : Nat) (l : List Lp) (w : World) (hr : Kd.C k58 w A l.length l) :
    Calls Tryz.prog 24 #[.slice A l.length c] w fun e w' => e = .returned (.bool (gd l)) ∧ Below w.heap.size w w' := by
  have hm : l.length ≤ 9223372036854775807 := hr.2.1
  have H := Fr.start0 (M := fun _ => False) (A := fun _ => False) (w := w) (p := fun W => Kd.C k58 W A l.length l) (fun _ h => h.elim) (Go.Proofs.YtbmfgcekglgliaaGreatEv.Tr.of_C hr k58_heap)
  have KT := Lib.hid (RWTable_calls A c l w hr)
  obtain ⟨n, hn⟩ : ∃ n, l.length = n := ⟨_, rfl⟩
  obtain ⟨b, hb⟩ : ∃ b, tb l = b := ⟨_, rfl⟩
  have HN := Lib.hid hn
  have HG : Hid (gd l = (b && l.all whole)) := Lib.hid (by unfold gd; rw [hb])
  rw [hb] at KT
  rw [hn] at hm KT ⊢
  clear hr hn hb
  go_enter Tryz.func24, Tryz.ntmps24
  cases b
  · go_wp2_with (first
      | (go_at_call 55; (with_reducible refine KT.out.mono ?_); rintro e w' ⟨rfl, hb⟩; have H1 := H.call hb; clear hb H; have H := H1; clear H1)
      | fail)
    go_ret
    exact ⟨(by rw [HG.out]; try rfl), H.below⟩
  go_wp2_with (first
    | (go_at_call 55; (with_reducible refine KT.out.mono ?_); rintro e w' ⟨rfl, hb⟩; have H1 := H.call hb; clear hb H; have H := H1; clear H1)
    | fail)
  go_loopw [10] (fun v10 wr => ∃ k : Nat, k ≤ n ∧ v10 = .int .i64 k ∧ Hid (∀ x ∈ l.take k, whole x = true) ∧ Fr (fun _ => False) (fun _ => False) w wr [] (fun W => Kd.C k58 W A l.length l)) (fun v10 _ => n - (intOf v10).toNat)
  case atStart => exact ⟨0, by omega, rfl, Lib.hid (fun x hx => by simp at hx), H⟩
  case round =>
    clear H KT
    obtain ⟨k, hk, rfl, HQ, H⟩ := hrel
    by_cases hlt : k < n
    · have hkl : k < l.length := by rw [HN.out]; exact hlt
      have hk1 : (k : Int) < (n : Int) := by omega
      have hs1 : -9223372036854775808 ≤ (k : Int) + 1 := by omega
      have hs2 : (k : Int) + 1 ≤ 9223372036854775807 := by omega
      obtain ⟨ad, e, hx⟩ := leap_at H.now k hkl
      cases e
      obtain ⟨x, hxe⟩ : ∃ x, l[k] = x := ⟨_, rfl⟩
      rw [hxe] at hx
      have HX : Hid (l.take (k + 1) = l.take k ++ [x]) := Lib.hid (by rw [List.take_succ_eq_append_getElem hkl, hxe])
      have HM : Hid (x ∈ l) := Lib.hid (hxe ▸ List.getElem_mem hkl)
      obtain ⟨x0, x1, e0, e1⟩ : ∃ x0 x1, x.f0 = x0 ∧ x.f1 = x1 := ⟨_, _, rfl, rfl⟩
      have hwh : whole x = ((wrap64 (x0 - x1)).tmod 86400 == 0) := by unfold whole; rw [e0, e1]
      rw [e0, e1] at hx
      have HC := Lib.hid hx
      have H0 := Lib.hid H
      clear hx hxe e0 e1
      by_cases hz : ((wrap64 (x0 - x1)).tmod 86400 == 0) = true
      · have d1 : ((wrap64 (x0 - x1)).tmod 86400 != 0) = false := by simp only [bne, hz, Bool.not_true]
        have HW : Hid (whole x = true) := Lib.hid (hwh.trans hz)
        clear hz hwh
        generalize hsub : wrap64 (x0 - x1) = s at d1
        go_wp2_with (first
          | ((with_reducible refine gate_dst (N := 13) rfl ?_); refine load_cells rfl rfl (ad := ad.add (k * 2)) (cs := [.int .i64 x0, .int .i64 x1]) ?hx Tryz.underlying58 rfl (by kernel_rfl) HC.out ?_; (case hx => first | rfl | (go_simp; done) | (go_simp; rfl)))
          | ((with_reducible refine gate_dst (N := 13) rfl ?_); refine fr_sub H (n := 2) rfl rfl rfl (by repeat (first | exact At.head | apply At.tail)) Tryz.underlying58 rfl (by kernel_rfl) (by simp only [List.toList_toArray, List.drop_succ_cons, List.drop_zero, List.take_succ_cons, List.take_zero]; rfl) (by rfl) ?_)
          | ((with_reducible refine gate_dst (N := 4) rfl ?_); refine fr_new H (N := 4) rfl rfl (cs := #[.int .i64 0, .int .i64 0]) (t := 58) ?hr ?_; (case hr => first | (go_simp; done) | (go_simp; rfl)); intro g4 w4 H1; replace H := H1; clear H1)
          | ((with_reducible refine gate_store (t := 58) (p := 4) rfl ?_); refine fr_put H rfl rfl rfl rfl rfl (by repeat (first | exact At.head | apply At.tail)) (by rfl) (by kernel_rfl) (by simp [Value.oneCell']) ?_; intro w4_ H1; replace H := H1; clear H1)
          | ((with_reducible refine gate_dst (N := 15) rfl ?_); refine fr_get H rfl rfl rfl (by repeat (first | exact At.head | apply At.tail)) Tryz.underlying3 rfl (by simp only [List.getElem?_toArray, List.getElem?_cons_succ, List.getElem?_cons_zero]; rfl) ?_)
          | ((with_reducible refine gate_dst (N := 17) rfl ?_); refine fr_get H rfl rfl rfl (by repeat (first | exact At.head | apply At.tail)) Tryz.underlying3 rfl (by simp only [List.getElem?_toArray, List.getElem?_cons_succ, List.getElem?_cons_zero]; rfl) ?_)
          | fail)
        go_roundw
        case rel => exact ⟨k + 1, by omega, by simp, Lib.hid (fun y hy => by
          rw [HX.out] at hy
          rcases List.mem_append.1 hy with hy | hy
          · exact HQ.out y hy
          · rw [List.mem_singleton.1 hy]; exact HW.out), H.drop⟩
        case measure => simp [intOf]; omega
      · have hz : ((wrap64 (x0 - x1)).tmod 86400 == 0) = false := by simpa using hz
        have d1 : ((wrap64 (x0 - x1)).tmod 86400 != 0) = true := by simp only [bne, hz, Bool.not_false]
        have HW : Hid (whole x = false) := Lib.hid (hwh.trans hz)
        clear hz hwh
        generalize hsub : wrap64 (x0 - x1) = s at d1
        go_wp2_with (first
          | ((with_reducible refine gate_dst (N := 13) rfl ?_); refine load_cells rfl rfl (ad := ad.add (k * 2)) (cs := [.int .i64 x0, .int .i64 x1]) ?hx Tryz.underlying58 rfl (by kernel_rfl) HC.out ?_; (case hx => first | rfl | (go_simp; done) | (go_simp; rfl)))
          | ((with_reducible refine gate_dst (N := 13) rfl ?_); refine fr_sub H (n := 2) rfl rfl rfl (by repeat (first | exact At.head | apply At.tail)) Tryz.underlying58 rfl (by kernel_rfl) (by simp only [List.toList_toArray, List.drop_succ_cons, List.drop_zero, List.take_succ_cons, List.take_zero]; rfl) (by rfl) ?_)
          | ((with_reducible refine gate_dst (N := 4) rfl ?_); refine fr_new H (N := 4) rfl rfl (cs := #[.int .i64 0, .int .i64 0]) (t := 58) ?hr ?_; (case hr => first | (go_simp; done) | (go_simp; rfl)); intro g4 w4 H1; replace H := H1; clear H1)
          | ((with_reducible refine gate_store (t := 58) (p := 4) rfl ?_); refine fr_put H rfl rfl rfl rfl rfl (by repeat (first | exact At.head | apply At.tail)) (by rfl) (by kernel_rfl) (by simp [Value.oneCell']) ?_; intro w4_ H1; replace H := H1; clear H1)
          | ((with_reducible refine gate_dst (N := 15) rfl ?_); refine fr_get H rfl rfl rfl (by repeat (first | exact At.head | apply At.tail)) Tryz.underlying3 rfl (by simp only [List.getElem?_toArray, List.getElem?_cons_succ, List.getElem?_cons_zero]; rfl) ?_)
          | ((with_reducible refine gate_dst (N := 17) rfl ?_); refine fr_get H rfl rfl rfl (by repeat (first | exact At.head | apply At.tail)) Tryz.underlying3 rfl (by simp only [List.getElem?_toArray, List.getElem?_cons_succ, List.getElem?_cons_zero]; rfl) ?_)
          | fail)
        have HF : Hid (l.all whole = false) := Lib.hid (by
          cases h : l.all whole with
          | false => rfl
          | true =>
            have := List.all_eq_true.1 h x HM.out
            rw [HW.out] at this
            cases this)
        go_ret
        exact ⟨(by rw [HG.out, HF.out]; try rfl), H.below⟩
    · obtain rfl : k = n := by omega
      have HT : Hid (l.all whole = true) := Lib.hid (List.all_eq_true.2 (fun x hx => HQ.out x (by rw [List.take_of_length_le (by rw [HN.out]; exact Nat.le_refl _)]; exact hx)))
      go_wp2
      go_ret
      exact ⟨(by rw [HG.out, HT.out]; try rfl), H.below⟩
set_option maxRecDepth 100000 in
set_option maxHeartbeats 8000000 in
theorem RSameS_calls (s : St) (A B : Option Addr) (c d : Nat) (w : World) (hr : Kd.C k58 w A s.tab.length s.tab) (hr2 : Kd.C k58 w B s.tab.length s.tab) :
    Calls Tryz.prog 9 #[.agg #[.int .i64 s.lo, .int .i64 s.hi, .int .i64 s.time, .bool s.set, .int .i64 s.held, .int .i64 s.hops, .bool s.good, .slice A s.tab.length c, .int .i64 s.st, .int .i64 s.sn, .int .i64 s.life], .agg #[.int .i64 s.lo, .int .i64 s.hi, .int .i64 s.time, .bool s.set, .int .i64 s.held, .int .i64 s.hops, .bool s.good, .slice B s.tab.length d, .int .i64 s.st, .int .i64 s.sn, .int .i64 s.life]] w fun e w' => e = .returned (.bool true) ∧ Below w.heap.size w w' := by
  obtain ⟨lo, hi, time, set, held, hops, good, l, st, sn, life⟩ := s
  dsimp only at hr hr2 ⊢
  have H := Fr.start0 (M := fun _ => False) (A := fun _ => False) (w := w) (p := fun W => Kd.C k58 W A l.length l ∧ Kd.C k58 W B l.length l) (fun _ h => h.elim) (Tr.and (Go.Proofs.YtbmfgcekglgliaaGreatEv.Tr.of_C hr k58_heap) (Go.Proofs.YtbmfgcekglgliaaGreatEv.Tr.of_C hr2 k58_heap))
  clear hr hr2
  go_enter Tryz.func9, Tryz.ntmps9
  try simp only [List.append_eq, List.cons_append, List.nil_append]
  go_wp2_with (first
    | (go_at_call 16; (with_reducible refine (RTables_calls _ _ _ _ l _ H.now.1 H.now.2).mono ?_); rintro e w' ⟨rfl, hb⟩; have H1 := H.call hb; clear hb; replace H := H1; clear H1)
    | ((with_reducible refine gate_dst (N := 2) rfl ?_); refine fr_box H rfl rfl rfl ?_; intro g2 w2 H1; replace H := H1; clear H1)
    | ((with_reducible refine gate_dst (N := 3) rfl ?_); refine fr_box H rfl rfl rfl ?_; intro g3 w3 H1; replace H := H1; clear H1)
    | ((with_reducible refine gate_dst (N := 6) rfl ?_); refine fr_sub H (n := 2) rfl rfl rfl (by repeat (first | exact At.head | apply At.tail)) Tryz.underlying25 rfl (by kernel_rfl) (by simp only [List.toList_toArray, List.drop_succ_cons, List.drop_zero, List.take_succ_cons, List.take_zero]; rfl) (by rfl) ?_)
    | ((with_reducible refine gate_dst (N := 8) rfl ?_); refine fr_sub H (n := 2) rfl rfl rfl (by repeat (first | exact At.head | apply At.tail)) Tryz.underlying25 rfl (by kernel_rfl) (by simp only [List.toList_toArray, List.drop_succ_cons, List.drop_zero, List.take_succ_cons, List.take_zero]; rfl) (by rfl) ?_)
    | ((with_reducible refine gate_dst (N := 12) rfl ?_); (try (refine gate_guard (by rfl) ?_; dsimp only)); refine fr_get H rfl rfl rfl (by repeat (first | exact At.head | apply At.tail)) Tryz.underlying3 rfl (by simp only [List.getElem?_toArray, List.getElem?_cons_succ, List.getElem?_cons_zero]; rfl) ?_)
    | ((with_reducible refine gate_dst (N := 14) rfl ?_); (try (refine gate_guard (by rfl) ?_; dsimp only)); refine fr_get H rfl rfl rfl (by repeat (first | exact At.head | apply At.tail)) Tryz.underlying3 rfl (by simp only [List.getElem?_toArray, List.getElem?_cons_succ, List.getElem?_cons_zero]; rfl) ?_)
    | ((with_reducible refine gate_dst (N := 19) rfl ?_); (try (refine gate_guard (by rfl) ?_; dsimp only)); refine fr_get H rfl rfl rfl (by repeat (first | exact At.head | apply At.tail)) Tryz.underlying4 rfl (by simp only [List.getElem?_toArray, List.getElem?_cons_succ, List.getElem?_cons_zero]; rfl) ?_)
    | ((with_reducible refine gate_dst (N := 21) rfl ?_); (try (refine gate_guard (by rfl) ?_; dsimp only)); refine fr_get H rfl rfl rfl (by repeat (first | exact At.head | apply At.tail)) Tryz.underlying4 rfl (by simp only [List.getElem?_toArray, List.getElem?_cons_succ, List.getElem?_cons_zero]; rfl) ?_)
    | ((with_reducible refine gate_dst (N := 26) rfl ?_); (try (refine gate_guard (by rfl) ?_; dsimp only)); refine fr_get H rfl rfl rfl (by repeat (first | exact At.head | apply At.tail)) Tryz.underlying3 rfl (by simp only [List.getElem?_toArray, List.getElem?_cons_succ, List.getElem?_cons_zero]; rfl) ?_)
    | ((with_reducible refine gate_dst (N := 28) rfl ?_); (try (refine gate_guard (by rfl) ?_; dsimp only)); refine fr_get H rfl rfl rfl (by repeat (first | exact At.head | apply At.tail)) Tryz.underlying3 rfl (by simp only [List.getElem?_toArray, List.getElem?_cons_succ, List.getElem?_cons_zero]; rfl) ?_)
    | ((with_reducible refine gate_dst (N := 33) rfl ?_); (try (refine gate_guard (by rfl) ?_; dsimp only)); refine fr_get H rfl rfl rfl (by repeat (first | exact At.head | apply At.tail)) Tryz.underlying3 rfl (by simp only [List.getElem?_toArray, List.getElem?_cons_succ, List.getElem?_cons_zero]; rfl) ?_)
    | ((with_reducible refine gate_dst (N := 35) rfl ?_); (try (refine gate_guard (by rfl) ?_; dsimp only)); refine fr_get H rfl rfl rfl (by repeat (first | exact At.head | apply At.tail)) Tryz.underlying3 rfl (by simp only [List.getElem?_toArray, List.getElem?_cons_succ, List.getElem?_cons_zero]; rfl) ?_)
    | ((with_reducible refine gate_dst (N := 40) rfl ?_); (try (refine gate_guard (by rfl) ?_; dsimp only)); refine fr_get H rfl rfl rfl (by repeat (first | exact At.head | apply At.tail)) Tryz.underlying4 rfl (by simp only [List.getElem?_toArray, List.getElem?_cons_succ, List.getElem?_cons_zero]; rfl) ?_)
    | ((with_reducible refine gate_dst (N := 42) rfl ?_); (try (refine gate_guard (by rfl) ?_; dsimp only)); refine fr_get H rfl rfl rfl (by repeat (first | exact At.head | apply At.tail)) Tryz.underlying4 rfl (by simp only [List.getElem?_toArray, List.getElem?_cons_succ, List.getElem?_cons_zero]; rfl) ?_)
    | ((with_reducible refine gate_dst (N := 47) rfl ?_); (try (refine gate_guard (by rfl) ?_; dsimp only)); refine fr_sub H (n := 2) rfl rfl rfl (by repeat (first | exact At.head | apply At.tail)) Tryz.underlying28 rfl (by kernel_rfl) (by simp only [List.toList_toArray, List.drop_succ_cons, List.drop_zero, List.take_succ_cons, List.take_zero]; rfl) (by rfl) ?_)
    | ((with_reducible refine gate_dst (N := 49) rfl ?_); (try (refine gate_guard (by rfl) ?_; dsimp only)); refine fr_sub H (n := 2) rfl rfl rfl (by repeat (first | exact At.head | apply At.tail)) Tryz.underlying28 rfl (by kernel_rfl) (by simp only [List.toList_toArray, List.drop_succ_cons, List.drop_zero, List.take_succ_cons, List.take_zero]; rfl) (by rfl) ?_)
    | ((with_reducible refine gate_dst (N := 54) rfl ?_); (try (refine gate_guard (by rfl) ?_; dsimp only)); refine fr_get H rfl rfl rfl (by repeat (first | exact At.head | apply At.tail)) Tryz.underlying3 rfl (by simp only [List.getElem?_toArray, List.getElem?_cons_succ, List.getElem?_cons_zero]; rfl) ?_)
    | ((with_reducible refine gate_dst (N := 56) rfl ?_); (try (refine gate_guard (by rfl) ?_; dsimp only)); refine fr_get H rfl rfl rfl (by repeat (first | exact At.head | apply At.tail)) Tryz.underlying3 rfl (by simp only [List.getElem?_toArray, List.getElem?_cons_succ, List.getElem?_cons_zero]; rfl) ?_)
    | ((with_reducible refine gate_dst (N := 61) rfl ?_); (try (refine gate_guard (by rfl) ?_; dsimp only)); refine fr_get H rfl rfl rfl (by repeat (first | exact At.head | apply At.tail)) Tryz.underlying26 rfl (by simp only [List.getElem?_toArray, List.getElem?_cons_succ, List.getElem?_cons_zero]; rfl) ?_)
    | ((with_reducible refine gate_dst (N := 63) rfl ?_); (try (refine gate_guard (by rfl) ?_; dsimp only)); refine fr_get H rfl rfl rfl (by repeat (first | exact At.head | apply At.tail)) Tryz.underlying26 rfl (by simp only [List.getElem?_toArray, List.getElem?_cons_succ, List.getElem?_cons_zero]; rfl) ?_)
    | fail)
  go_ret
  exact ⟨rfl, H.below⟩
end Go.Proofs.YtbmfgcekglgliaaGreat.G

namespace Go.Proofs.YtbmfgcekglgliaaGreat.X
open Go.RowKit Go.Proofs.YtbmfgcekglgliaaGreatW.PrintWords Go.Proofs.YtbmfgcekglgliaaGreatW.PrintLast Go.Proofs.YtbmfgcekglgliaaGreatW.PrintMore
attribute [local go_sem] max2_int min2_int max_two min_two max_three min_three max_four min_four   -- for this text's walks alone
set_option linter.unusedVariables false
set_option linter.unusedSimpArgs false
def sat_Bound.j0 : Nat → Int → Int → Int → Bool → Option (Int)
  | 0, _, _, _, _ => none
  | k + 1, x0, x1, x2, x7 => if x7 = true then (some x1) else (if x0 > x2 then (some x2) else (some x0))
def sat_Bound.f (k : Nat) (a0 : Int) (a1 : Int) (a2 : Int) : Option (Int) := if a0 < a1 then (sat_Bound.j0 k a0 a1 a2 true) else (sat_Bound.j0 k a0 a1 a2 (decide (a2 < a1)))
theorem sat_Bound.mono_l : ∀ k, (∀ y0 y1 y2 y3, LeO (sat_Bound.j0 k y0 y1 y2 y3) (sat_Bound.j0 (k + 1) y0 y1 y2 y3))
  | 0 => fun _ _ _ _ r h => by simp [sat_Bound.j0] at h
  | k + 1 => by
    have ih0 := sat_Bound.mono_l k
    · intro y0 y1 y2 y3
      unfold sat_Bound.j0
      repeat' first
      | (with_reducible exact ih0 _ _ _ _)
      | (with_reducible exact LeO.refl _)
      | (with_reducible exact LeO.none _)
      | (with_reducible refine LeO.ite ?_ ?_)
      | (with_reducible refine LeO.bind ?_ (fun _ => ?_))
      | exact ih0 _ _ _ _
      | exact LeO.none _
      | refine LeO.ite ?_ ?_
      | refine LeO.bind ?_ (fun _ => ?_)
theorem sat_Bound.mono : ∀ a0 a1 a2 k, LeO (sat_Bound.f k a0 a1 a2) (sat_Bound.f (k + 1) a0 a1 a2) := by
  intro a0 a1 a2 k
  have ih0 := sat_Bound.mono_l k
  unfold sat_Bound.f
  repeat' first
      | (with_reducible exact ih0 _ _ _ _)
      | (with_reducible exact LeO.refl _)
      | (with_reducible exact LeO.none _)
      | (with_reducible refine LeO.ite ?_ ?_)
      | (with_reducible refine LeO.bind ?_ (fun _ => ?_))
      | exact ih0 _ _ _ _
      | exact LeO.none _
      | refine LeO.ite ?_ ?_
      | refine LeO.bind ?_ (fun _ => ?_)
set_option maxHeartbeats 8000000 in
set_option maxRecDepth 100000 in
theorem sat_Bound.calls (k : Nat) (a0 : Int) (a1 : Int) (a2 : Int) (r : Int) (w : World) (h : sat_Bound.f k a0 a1 a2 = some r) :
    Calls Tryz.prog 51 #[.int .i64 a0, .int .i64 a1, .int .i64 a2] w fun e w' => e = .returned (.int .i64 r) ∧ Drawn0 w w' := by
  have H : (if a0 < a1 then (sat_Bound.j0 k a0 a1 a2 true) else (sat_Bound.j0 k a0 a1 a2 (decide (a2 < a1)))) = some r := h
  clear h
  have HC4 := Aside0.mk H
  clear H
  go_enter Tryz.func51, Tryz.ntmps51
  go_upto_region 1 with (fail)
  go_cut [7] (fun v7 wc => ∃ (kq : Nat) (x7_3 : Bool), v7 = .bool x7_3 ∧ Aside0 (sat_Bound.j0 kq a0 a1 a2 x7_3 = some r) ∧ Aside0 (kq ≤ k) ∧ Drawn0 w wc)
  case first =>
    have H := HC4.out
    clear HC4
    by_cases c5 : a0 < a1
    · rw [if_pos c5] at H
      have c5b0 : decide (a0 < a1) = true := decide_eq_true c5
      clear c5
      (first | rw [c5b0] | (simp only [i64_w, i32_w]; rw [c5b0]) | skip)
      have H' := Aside0.mk H
      clear H
      go_wp2
      go_meet
      case rel => exact ⟨_, (true), (by first | rfl | (simp; done) | (simp [*]; done)), H', ⟨by first | omega | exact Nat.le_refl _⟩, by repeat (first | exact Drawn0.refl _ | apply Drawn0.step)⟩
    · rw [if_neg c5] at H
      have c5b0 : decide (a0 < a1) = false := decide_eq_false c5
      clear c5
      (first | rw [c5b0] | (simp only [i64_w, i32_w]; rw [c5b0]) | skip)
      have H' := Aside0.mk H
      clear H
      go_wp2
      go_meet
      case rel => exact ⟨_, (decide (a2 < a1)), (by first | rfl | (simp; done) | (simp [*]; done)), H', ⟨by first | omega | exact Nat.le_refl _⟩, by repeat (first | exact Drawn0.refl _ | apply Drawn0.step)⟩
  case rest =>
    clear HC4
    try clear p2
    try clear c5
    try clear c5b0
    obtain ⟨kq, x7_3, rfl, HA, HJ3, ⟨mc3, rfl⟩⟩ := hcut
    cases kq with
    | zero => exact absurd HA.out (by simp [sat_Bound.j0])
    | succ kj3 =>
      have H := HA.out
      clear HA
      simp only [sat_Bound.j0] at H
      by_cases c6 : x7_3 = true
      · subst c6
        have H1 : (some a1) = some r := by rw [if_pos rfl] at H; exact H
        clear H
        have H := H1
        clear H1
        obtain rfl := Option.some.inj H
        go_wp2
        go_ret
        exact ⟨by first | rfl | (simp; done) | (simp [*]; done), by repeat (first | exact Drawn0.refl _ | apply Drawn0.step)⟩
      · replace c6 := Bool.eq_false_iff.mpr c6
        subst c6
        have H1 : (if a0 > a2 then (some a2) else (some a0)) = some r := by rw [if_neg (show ¬ (false = true) by decide)] at H; exact H
        clear H
        have H := H1
        clear H1
        by_cases c7 : a0 > a2
        · rw [if_pos c7] at H
          have c7b0 : decide (a2 < a0) = true := decide_eq_true c7
          clear c7
          obtain rfl := Option.some.inj H
          go_wp2
          go_ret
          exact ⟨by first | rfl | (simp; done) | (simp [*]; done), by repeat (first | exact Drawn0.refl _ | apply Drawn0.step)⟩
        · rw [if_neg c7] at H
          have c7b0 : decide (a2 < a0) = false := decide_eq_false c7
          clear c7
          obtain rfl := Option.some.inj H
          go_wp2
          go_ret
          exact ⟨by first | rfl | (simp; done) | (simp [*]; done), by repeat (first | exact Drawn0.refl _ | apply Drawn0.step)⟩
def sat_Clip.f (k : Nat) (a0 : Int) : Option (Int) := (sat_Bound.f k a0 (-2305843009213693952) 2305843009213693952).bind fun t101 => (some t101)
theorem sat_Clip.mono : ∀ a0 k, LeO (sat_Clip.f k a0) (sat_Clip.f (k + 1) a0) := by
  intro a0 k
  unfold sat_Clip.f
  repeat' first
      | (with_reducible exact sat_Bound.mono _ _ _ _)
      | (with_reducible exact LeO.refl _)
      | (with_reducible exact LeO.none _)
      | (with_reducible refine LeO.ite ?_ ?_)
      | (with_reducible refine LeO.bind ?_ (fun _ => ?_))
      | exact sat_Bound.mono _ _ _ _
      | exact LeO.none _
      | refine LeO.ite ?_ ?_
      | refine LeO.bind ?_ (fun _ => ?_)
set_option maxHeartbeats 8000000 in
set_option maxRecDepth 100000 in
theorem sat_Clip.calls (k : Nat) (a0 : Int) (r : Int) (w : World) (h : sat_Clip.f k a0 = some r) :
    Calls Tryz.prog 50 #[.int .i64 a0] w fun e w' => e = .returned (.int .i64 r) ∧ Drawn0 w w' := by
  have H : ((sat_Bound.f k a0 (-2305843009213693952) 2305843009213693952).bind fun t101 => (some t101)) = some r := h
  clear h
  replace H := Option.bind_eq_some_iff.mp H
  obtain ⟨t101, A20, H⟩ := H
  replace H : (some t101) = some r := H
  have A2 := Aside0.mk A20
  clear A20
  obtain rfl := Option.some.inj H
  go_enter Tryz.func50, Tryz.ntmps50
  go_wp2_with (first | ((with_reducible refine gate_callee (f := 51) rfl ?_); refine goesL_ (some 4) rfl rfl Tryz.func51 (by kernel_rfl) rfl #[.int .i64 a0, .int .i64 (-2305843009213693952), .int .i64 2305843009213693952] rfl (by (try simp only [List.map_toArray, List.map_cons, List.map_nil]); first | done | rfl | (simp only [List.length_drop, List.length_take]; rfl)) ?_; (with_reducible refine (sat_Bound.calls k a0 (-2305843009213693952) 2305843009213693952 t101 _ A2.out).mono ?_); rintro e w' ⟨rfl, ⟨nd, rfl⟩⟩; refine ⟨_, rfl, ?_⟩))
  go_ret
  exact ⟨by first | rfl | (simp; done) | (simp [*]; done), by repeat (first | exact Drawn0.refl _ | apply Drawn0.step)⟩
def span_Of.f (k : Nat) (a0 : Int) (a1 : Int) : Option (Int × Int) := (sat_Clip.f k a0).bind fun t103 => ((sat_Clip.f k a1).bind fun t104 => (some (t103, t104)))
theorem span_Of.mono : ∀ a0 a1 k, LeO (span_Of.f k a0 a1) (span_Of.f (k + 1) a0 a1) := by
  intro a0 a1 k
  unfold span_Of.f
  repeat' first
      | (with_reducible exact sat_Clip.mono _ _)
      | (with_reducible exact LeO.refl _)
      | (with_reducible exact LeO.none _)
      | (with_reducible refine LeO.ite ?_ ?_)
      | (with_reducible refine LeO.bind ?_ (fun _ => ?_))
      | exact sat_Clip.mono _ _
      | exact LeO.none _
      | refine LeO.ite ?_ ?_
      | refine LeO.bind ?_ (fun _ => ?_)
set_option maxHeartbeats 8000000 in
set_option maxRecDepth 100000 in
theorem span_Of.calls (k : Nat) (a0 : Int) (a1 : Int) (r1 : Int) (r2 : Int) (w : World) (h : span_Of.f k a0 a1 = some (r1, r2)) :
    Calls Tryz.prog 47 #[.int .i64 a0, .int .i64 a1] w fun e w' => e = .returned (.agg #[.int .i64 r1, .int .i64 r2]) ∧ Below w.heap.size w w' := by
  have hu25 := Tryz.underlying25
  have HB := Aside0.mk (Below.refl w.heap.size w)
  have H : ((sat_Clip.f k a0).bind fun t103 => ((sat_Clip.f k a1).bind fun t104 => (some (t103, t104)))) = some (r1, r2) := h
  clear h
  replace H := Option.bind_eq_some_iff.mp H
  obtain ⟨t103, A30, H⟩ := H
  replace H : ((sat_Clip.f k a1).bind fun t104 => (some (t103, t104))) = some (r1, r2) := H
  have A3 := Aside0.mk A30
  clear A30
  replace H := Option.bind_eq_some_iff.mp H
  obtain ⟨t104, A40, H⟩ := H
  replace H : (some (t103, t104)) = some (r1, r2) := H
  have A4 := Aside0.mk A40
  clear A40
  simp only [Option.some.injEq, Prod.mk.injEq] at H
  obtain ⟨rfl, rfl⟩ := H
  go_enter Tryz.func47, Tryz.ntmps47
  go_wp2_with (first | ((with_reducible refine gate_dst (N := 4) rfl ?_); refine box_event ?hg (N := 4) ?hd (cs := #[.int .i64 0, .int .i64 0]) (t := 25) ?hr ?_; (case hd => rfl); (case hg => rfl); (case hr => first | (go_simp; done) | (go_simp; rfl)); intro gb102 hg w5 hbox hb; have n0_ := Aside0.mk (below_step (by repeat (first | (with_reducible first | exact HB.out | apply below_alloc | apply pw_below_drewN | apply below_drew1) | exact HB.out)) hb); have n1_ := Aside0.mk (hbox); have n2_ := Aside0.mk ((by rw [hg]; exact (below_size (by repeat (first | (with_reducible first | exact HB.out | apply below_alloc | apply pw_below_drewN | apply below_drew1) | exact HB.out))) : w.heap.size ≤ gb102)); have n3_ := Aside0.mk ((by rw [hg]; exact (below_size (by repeat (first | (with_reducible first | exact HB.out | apply below_alloc | apply pw_below_drewN | apply below_drew1) | exact HB.out))) : w.heap.size ≤ gb102)); clear HB; have HB := n0_; have BK102 := n1_; have GW102 := n2_; have GE102 := n3_; clear n0_ n1_ n2_ n3_; clear hb hbox hg) | ((with_reducible refine gate_callee (f := 50) rfl ?_); refine goesL_ (some 6) rfl rfl Tryz.func50 (by kernel_rfl) rfl #[.int .i64 a0] rfl (by (try simp only [List.map_toArray, List.map_cons, List.map_nil]); first | done | rfl | (simp only [List.length_drop, List.length_take]; rfl)) ?_; (with_reducible refine (sat_Clip.calls k a0 t103 _ A3.out).mono ?_); rintro e w' ⟨rfl, ⟨nd, rfl⟩⟩; refine ⟨_, rfl, ?_⟩; (try (rw [drewN_self w5]; generalize hq_ : World.drewN w5 _ = w5; have n0_ : Aside0 (w5.heap[gb102]? = some (.cells #[.int .i64 0, .int .i64 0] 25 (0, 0))) := ⟨by rw [← hq_]; exact (by (with_reducible repeat (first | refine blk_drewN ?_ _ | refine blk_drew ?_ | refine blk_alloc ?_ _)); exact BK102.out)⟩; have n1_ : Aside0 (Below w.heap.size w w5) := ⟨by rw [← hq_]; exact (by repeat (first | (with_reducible first | exact HB.out | apply below_alloc | apply pw_below_drewN | apply below_drew1 | refine below_set ?_ GE102.out) | exact HB.out))⟩; clear BK102 HB hq_; have BK102 := n0_; have HB := n1_; clear n0_ n1_))) | ((with_reducible refine gate_callee (f := 50) rfl ?_); refine goesL_ (some 8) rfl rfl Tryz.func50 (by kernel_rfl) rfl #[.int .i64 a1] rfl (by (try simp only [List.map_toArray, List.map_cons, List.map_nil]); first | done | rfl | (simp only [List.length_drop, List.length_take]; rfl)) ?_; (with_reducible refine (sat_Clip.calls k a1 t104 _ A4.out).mono ?_); rintro e w' ⟨rfl, ⟨nd, rfl⟩⟩; refine ⟨_, rfl, ?_⟩; (try (rw [drewN_self w5]; generalize hq_ : World.drewN w5 _ = w5; have n0_ : Aside0 (w5.heap[gb102]? = some (.cells #[.int .i64 0, .int .i64 0] 25 (0, 0))) := ⟨by rw [← hq_]; exact (by (with_reducible repeat (first | refine blk_drewN ?_ _ | refine blk_drew ?_ | refine blk_alloc ?_ _)); exact BK102.out)⟩; have n1_ : Aside0 (Below w.heap.size w w5) := ⟨by rw [← hq_]; exact (by repeat (first | (with_reducible first | exact HB.out | apply below_alloc | apply pw_below_drewN | apply below_drew1 | refine below_set ?_ GE102.out) | exact HB.out))⟩; clear BK102 HB hq_; have BK102 := n0_; have HB := n1_; clear n0_ n1_)); have hcz6_0 : w5.cell? ⟨gb102, 0, none⟩ = some (.int .i64 0) := (blk_cell BK102.out 0).trans rfl; have hcz6_1 : w5.cell? ⟨gb102, 1, none⟩ = some (.int .i64 0) := (blk_cell BK102.out 1).trans rfl; have hfz6_0 := blk_frozen BK102.out 0; have hfz6_1 := blk_frozen BK102.out 1))
  refine bodyPost_ret (results_cell_row rfl _ _ gb102 25 #[.int .i64 t103, .int .i64 t104] (0, 0) _ rfl (by (with_reducible repeat (first | refine blk_drewN ?_ _ | refine blk_drew ?_ | refine blk_alloc ?_ _)); refine blk_put (cs := #[.int .i64 t103, .int .i64 0]) ?_ 1 _ rfl; (with_reducible repeat (first | refine blk_drewN ?_ _ | refine blk_drew ?_ | refine blk_alloc ?_ _)); refine blk_put (cs := #[.int .i64 0, .int .i64 0]) ?_ 0 _ rfl; (with_reducible repeat (first | refine blk_drewN ?_ _ | refine blk_drew ?_ | refine blk_alloc ?_ _)); exact BK102.out) Tryz.underlying25 rfl (by kernel_rfl)) rfl ?_
  exact ⟨by first | rfl | (simp [errW_none, errW_some] <;> rfl) | (simp [*, errW_none, errW_some] <;> rfl), by repeat (first | (with_reducible first | exact HB.out | apply below_alloc | apply pw_below_drewN | apply below_drew1 | refine below_set ?_ GE102.out) | exact HB.out)⟩
def cmp_isNaN_int.f (a0 : Int) : Option (Bool) := some (a0 != a0)
set_option maxHeartbeats 8000000 in
set_option maxRecDepth 100000 in
theorem cmp_isNaN_int.calls (a0 : Int) (r : Bool) (w : World) (h : cmp_isNaN_int.f a0 = some r) :
    Calls Tryz.prog 137 #[.int .i64 a0] w fun e w' => e = .returned (.bool r) ∧ Drawn0 w w' := by
  have H : (some (a0 != a0)) = some r := h
  clear h
  obtain rfl := Option.some.inj H
  go_enter Tryz.func137, Tryz.ntmps137
  go_wp2
  go_ret
  exact ⟨by first | rfl | (simp; done) | (simp [*]; done), by repeat (first | exact Drawn0.refl _ | apply Drawn0.step)⟩
def cmp_Less_int.f (a0 : Int) (a1 : Int) : Option (Bool) := (cmp_isNaN_int.f a0).bind fun t105 => (if t105 = true then ((cmp_isNaN_int.f a1).bind fun t106 => (if t106 = true then (some (decide (a0 < a1))) else (some true))) else (some (decide (a0 < a1))))
set_option maxHeartbeats 8000000 in
set_option maxRecDepth 100000 in
theorem cmp_Less_int.calls (a0 : Int) (a1 : Int) (r : Bool) (w : World) (h : cmp_Less_int.f a0 a1 = some r) :
    Calls Tryz.prog 127 #[.int .i64 a0, .int .i64 a1] w fun e w' => e = .returned (.bool r) ∧ Drawn0 w w' := by
  have H : ((cmp_isNaN_int.f a0).bind fun t105 => (if t105 = true then ((cmp_isNaN_int.f a1).bind fun t106 => (if t106 = true then (some (decide (a0 < a1))) else (some true))) else (some (decide (a0 < a1))))) = some r := h
  clear h
  replace H := Option.bind_eq_some_iff.mp H
  obtain ⟨t105, A30, H⟩ := H
  replace H : (if t105 = true then ((cmp_isNaN_int.f a1).bind fun t106 => (if t106 = true then (some (decide (a0 < a1))) else (some true))) else (some (decide (a0 < a1)))) = some r := H
  have A3 := Aside0.mk A30
  clear A30
  by_cases c4 : t105 = true
  · subst c4
    have H1 : ((cmp_isNaN_int.f a1).bind fun t106 => (if t106 = true then (some (decide (a0 < a1))) else (some true))) = some r := by rw [if_pos rfl] at H; exact H
    clear H
    have H := H1
    clear H1
    replace H := Option.bind_eq_some_iff.mp H
    obtain ⟨t106, A50, H⟩ := H
    replace H : (if t106 = true then (some (decide (a0 < a1))) else (some true)) = some r := H
    have A5 := Aside0.mk A50
    clear A50
    by_cases c6 : t106 = true
    · subst c6
      have H1 : (some (decide (a0 < a1))) = some r := by rw [if_pos rfl] at H; exact H
      clear H
      have H := H1
      clear H1
      obtain rfl := Option.some.inj H
      go_enter Tryz.func127, Tryz.ntmps127
      go_wp2_with (first | ((with_reducible refine gate_callee (f := 137) rfl ?_); refine goesL_ (some 6) rfl rfl Tryz.func137 (by kernel_rfl) rfl #[.int .i64 a0] rfl (by (try simp only [List.map_toArray, List.map_cons, List.map_nil]); first | done | rfl | (simp only [List.length_drop, List.length_take]; rfl)) ?_; (with_reducible refine (cmp_isNaN_int.calls a0 true _ A3.out).mono ?_); rintro e w' ⟨rfl, ⟨nd, rfl⟩⟩; refine ⟨_, rfl, ?_⟩) | (go_at_call 137; (with_reducible refine (cmp_isNaN_int.calls a1 true _ A5.out).mono ?_); rintro e w' ⟨rfl, ⟨nd, rfl⟩⟩))
      go_ret
      exact ⟨by first | rfl | (simp; done) | (simp [*]; done), by repeat (first | exact Drawn0.refl _ | apply Drawn0.step)⟩
    · replace c6 := Bool.eq_false_iff.mpr c6
      subst c6
      have H1 : (some true) = some r := by rw [if_neg (show ¬ (false = true) by decide)] at H; exact H
      clear H
      have H := H1
      clear H1
      obtain rfl := Option.some.inj H
      go_enter Tryz.func127, Tryz.ntmps127
      go_wp2_with (first | ((with_reducible refine gate_callee (f := 137) rfl ?_); refine goesL_ (some 6) rfl rfl Tryz.func137 (by kernel_rfl) rfl #[.int .i64 a0] rfl (by (try simp only [List.map_toArray, List.map_cons, List.map_nil]); first | done | rfl | (simp only [List.length_drop, List.length_take]; rfl)) ?_; (with_reducible refine (cmp_isNaN_int.calls a0 true _ A3.out).mono ?_); rintro e w' ⟨rfl, ⟨nd, rfl⟩⟩; refine ⟨_, rfl, ?_⟩) | (go_at_call 137; (with_reducible refine (cmp_isNaN_int.calls a1 false _ A5.out).mono ?_); rintro e w' ⟨rfl, ⟨nd, rfl⟩⟩))
      go_ret
      exact ⟨by first | rfl | (simp; done) | (simp [*]; done), by repeat (first | exact Drawn0.refl _ | apply Drawn0.step)⟩
  · replace c4 := Bool.eq_false_iff.mpr c4
    subst c4
    have H1 : (some (decide (a0 < a1))) = some r := by rw [if_neg (show ¬ (false = true) by decide)] at H; exact H
    clear H
    have H := H1
    clear H1
    obtain rfl := Option.some.inj H
    go_enter Tryz.func127, Tryz.ntmps127
    go_wp2_with (first | ((with_reducible refine gate_callee (f := 137) rfl ?_); refine goesL_ (some 6) rfl rfl Tryz.func137 (by kernel_rfl) rfl #[.int .i64 a0] rfl (by (try simp only [List.map_toArray, List.map_cons, List.map_nil]); first | done | rfl | (simp only [List.length_drop, List.length_take]; rfl)) ?_; (with_reducible refine (cmp_isNaN_int.calls a0 false _ A3.out).mono ?_); rintro e w' ⟨rfl, ⟨nd, rfl⟩⟩; refine ⟨_, rfl, ?_⟩))
    go_ret
    exact ⟨by first | rfl | (simp; done) | (simp [*]; done), by repeat (first | exact Drawn0.refl _ | apply Drawn0.step)⟩
end Go.Proofs.YtbmfgcekglgliaaGreat.X

namespace Go.Proofs
open Go.Shelf
def Tryz.lays189_ren : Go.Shelf.Ren := ⟨fun | 189 => 113 | 125 => 120 | 257 => 119 | 128 => 130 | 129 => 131 | 294 => 121 | 295 => 122 | 296 => 123 | 297 => 124 | 298 => 125 | 299 => 126 | 216 => 127 | 300 => 128 | 301 => 129 | 328 => 132 | 329 => 133 | 330 => 134 | 331 => 135 | 332 => 136 | 215 => 137 | 343 => 138 | n => n, fun | 28 => 69 | 3 => 3 | 46 => 121 | 0 => 0 | 51 => 146 | 53 => 148 | 4 => 4 | 183 => 140 | 182 => 139 | 131 => 110 | 5 => 5 | 9 => 9 | 218 => 149 | 222 => 153 | 228 => 155 | 229 => 124 | n => n, fun | n => n⟩
theorem Tryz.lays189 : Go.Proofs.Lays.n189 Tryz.prog Tryz.lays189_ren := {
  mixed := by kernel_rfl
  f125 := Tryz.func120.trans (congrArg some (by kernel_rfl))
  f128 := Tryz.func130.trans (congrArg some (by kernel_rfl))
  f129 := Tryz.func131.trans (congrArg some (by kernel_rfl))
  f189 := Tryz.func113.trans (congrArg some (by kernel_rfl))
  f215 := Tryz.func137.trans (congrArg some (by kernel_rfl))
  f216 := Tryz.func127.trans (congrArg some (by kernel_rfl))
  f257 := Tryz.func119.trans (congrArg some (by kernel_rfl))
  f294 := Tryz.func121.trans (congrArg some (by kernel_rfl))
  f295 := Tryz.func122.trans (congrArg some (by kernel_rfl))
  f296 := Tryz.func123.trans (congrArg some (by kernel_rfl))
  f297 := Tryz.func124.trans (congrArg some (by kernel_rfl))
  f298 := Tryz.func125.trans (congrArg some (by kernel_rfl))
  f299 := Tryz.func126.trans (congrArg some (by kernel_rfl))
  f300 := Tryz.func128.trans (congrArg some (by kernel_rfl))
  f301 := Tryz.func129.trans (congrArg some (by kernel_rfl))
  f328 := Tryz.func132.trans (congrArg some (by kernel_rfl))
  f329 := Tryz.func133.trans (congrArg some (by kernel_rfl))
  f330 := Tryz.func134.trans (congrArg some (by kernel_rfl))
  f331 := Tryz.func135.trans (congrArg some (by kernel_rfl))
  f332 := Tryz.func136.trans (congrArg some (by kernel_rfl))
  f343 := Tryz.func138.trans (congrArg some (by kernel_rfl))
  t0 := Tryz.underlying0
  a0 := Tryz.isAgg0
  z0 := Tryz.sizeOf0
  v0 := Tryz.zeroValue0
  t3 := Tryz.underlying3
  a3 := Tryz.isAgg3
  z3 := Tryz.sizeOf3
  v3 := Tryz.zeroValue3
  t4 := Tryz.underlying4
  a4 := Tryz.isAgg4
  z4 := Tryz.sizeOf4
  v4 := Tryz.zeroValue4
  t5 := Tryz.underlying5
  a5 := Tryz.isAgg5
  z5 := Tryz.sizeOf5
  v5 := Tryz.zeroValue5
  t9 := Tryz.underlying9
  a9 := Tryz.isAgg9
  z9 := Tryz.sizeOf9
  v9 := Tryz.zeroValue9
  t28 := Tryz.underlying69
  a28 := Tryz.isAgg69
  z28 := Tryz.sizeOf69
  v28 := Tryz.zeroValue69
  t46 := Tryz.underlying121
  a46 := Tryz.isAgg121
  z46 := Tryz.sizeOf121
  v46 := Tryz.zeroValue121
  t51 := Tryz.underlying146
  a51 := Tryz.isAgg146
  z51 := Tryz.sizeOf146
  v51 := Tryz.zeroValue146
  t53 := Tryz.underlying148
  a53 := Tryz.isAgg148
  z53 := Tryz.sizeOf148
  v53 := Tryz.zeroValue148
  t131 := Tryz.underlying110
  a131 := Tryz.isAgg110
  z131 := Tryz.sizeOf110
  v131 := Tryz.zeroValue110
  t182 := Tryz.underlying139
  a182 := Tryz.isAgg139
  z182 := Tryz.sizeOf139
  v182 := Tryz.zeroValue139
  t183 := Tryz.underlying140
  a183 := Tryz.isAgg140
  z183 := Tryz.sizeOf140
  v183 := Tryz.zeroValue140
  t218 := Tryz.underlying149
  a218 := Tryz.isAgg149
  z218 := Tryz.sizeOf149
  v218 := Tryz.zeroValue149
  t222 := Tryz.underlying153
  a222 := Tryz.isAgg153
  z222 := Tryz.sizeOf153
  v222 := Tryz.zeroValue153
  t228 := Tryz.underlying155
  a228 := Tryz.isAgg155
  z228 := Tryz.sizeOf155
  v228 := Tryz.zeroValue155
  t229 := Tryz.underlying124
  a229 := Tryz.isAgg124
  z229 := Tryz.sizeOf124
  v229 := Tryz.zeroValue124 }
open Go.Sort Go.RowKit in
theorem Tryz.slices_Sort_int (blk off cap : Nat) (zs : List Int) (w : World) (hH : Holds (Value.int .i64) w blk off zs.toArray) (hblk : blk < w.heap.size) (hsz : zs.length < 4611686018427387904) :
    Calls Tryz.prog 113 #[.slice (some ⟨blk, off, none⟩) zs.length cap] w fun e w' =>
      e = .returned (.tuple #[]) ∧ ∃ n os, w' = grow (putRow (Value.int .i64) (Sort.ahead w n) blk off (zs.mergeSort fun x y => decide (x ≤ y)).toArray) os := Any.slices_Sort_int Tryz.lays189 blk off cap zs w hH hblk hsz
open Go.RowKit Go.Sort in
theorem Tryz.slices_Sort_int_none (p : Option Addr) (cap : Nat) (w : World) :
    Calls Tryz.prog 113 #[.slice p 0 cap] w fun e w' => e = .returned (.tuple #[]) ∧ w' = w := Any.slices_Sort_int_none Tryz.lays189 p cap w
end Go.Proofs

namespace Go.Proofs.YtbmfgcekglgliaaGreat.So
open Go.RowKit Go.Shelf Go.Sort Go.Proofs.YtbmfgcekglgliaaGreatW.PrintWords Go.Proofs.YtbmfgcekglgliaaGreatW.PrintLast Go.Proofs.YtbmfgcekglgliaaGreatW.PrintMore Go.Proofs.YtbmfgcekglgliaaGreatEv
attribute [local go_sem] Oper.semAt_some
def upto {α : Type} (f : Nat → α) (k : Nat) : List α := (List.range k).map f
theorem upto_succ {α : Type} (f : Nat → α) (k : Nat) : upto f (k + 1) = upto f k ++ [f k] := by simp [upto, List.range_succ]
theorem upto_length {α : Type} (f : Nat → α) (k : Nat) : (upto f k).length = k := by simp [upto]
theorem upto_take (zs : List Int) {k : Nat} (hk : k ≤ zs.length) : upto (fun j => zs[j]?.getD 0) k = zs.take k := by
  apply List.ext_getElem
  · simp [upto, hk]
  · intro i h1 h2
    have : i < zs.length := by simp [upto] at h1; omega
    simp [upto, this]
theorem upto_all (zs : List Int) : upto (fun j => zs[j]?.getD 0) zs.length = zs := by rw [upto_take zs (Nat.le_refl _), List.take_length]
def Ints (n₀ : Nat) (W : World) (sv : Value) (zs : List Int) : Prop :=
  (∃ A c, sv = .slice A 0 c ∧ zs = []) ∨ ∃ ad cap, sv = .slice (some ad) zs.length cap ∧ ad.block < n₀ ∧ ∀ j, j < zs.length → W.cell? (ad.add j) = some (.int .i64 (zs[j]?.getD 0))
theorem Ints.below {n₀ : Nat} {A B : World} (h : Below n₀ A B) {sv : Value} {zs : List Int} : Ints n₀ A sv zs → Ints n₀ B sv zs
  | .inl e => .inl e
  | .inr ⟨ad, cap, e, hb, hc⟩ => .inr ⟨ad, cap, e, hb, fun j hj => (h.cell (p := ad.add j) (by rw [add_block]; exact hb)).trans (hc j hj)⟩
theorem Ints.mono {n₀ n₁ : Nat} {W : World} (h : n₀ ≤ n₁) {sv : Value} {zs : List Int} : Ints n₀ W sv zs → Ints n₁ W sv zs
  | .inl e => .inl e
  | .inr ⟨ad, cap, e, hb, hc⟩ => .inr ⟨ad, cap, e, by omega, hc⟩
set_option maxRecDepth 100000 in
set_option maxHeartbeats 2000000 in
theorem val1_in (n : Nat) (hn : 1 ≤ n) (l Bs n₀ : Nat) (ad : Addr) (len cap : Nat) (zs : List Int) (hreach : len * 8 ≤ 140737488351232) (hb : ad.block < n₀) (J Jx : List Int → World → Prop)
    (hY : ∀ pre x W, J pre W → pre.length < len → YieldAt Fence.wide (n - 1) Tryz.prog l #[.int .i64 x] W fun e W' =>
      (e = .returned (.bool true) ∧ J (pre ++ [x]) W' ∧ Below n₀ W W') ∨ (e = .returned (.bool false) ∧ Jx (pre ++ [x]) W'))
    (W : World) (hBs : W.cell? ⟨Bs, 0, none⟩ = some (.slice (some ad) len cap)) (hc : ∀ j, j < len → W.cell? (ad.add j) = some (.int .i64 (zs[j]?.getD 0))) (h0 : J [] W) :
    CallsIn Fence.wide n Tryz.prog 114 #[.func (.yield l) #[] #[], .pointer (some ⟨Bs, 0, none⟩)] W fun e W' => (∃ v, e = .returned v) ∧
      ((∃ ys, ys = upto (fun j => zs[j]?.getD 0) len ∧ J ys W') ∨ (∃ pre, (∃ k, k ≤ len ∧ pre = upto (fun j => zs[j]?.getD 0) k) ∧ Jx pre W')) := by
  refine callsIn_of_wp Tryz.func114 rfl trivial ?_ rfl
  simp only [Tryz.ntmps114, List.size_toArray, List.length_cons, List.length_nil, Nat.reduceAdd, Nat.reduceSub, Array.replicate_succ, Array.replicate_zero, List.push_toArray, List.append_toArray, List.nil_append, List.cons_append]
  gi_wp2
  gi_loopw [7] (fun i wr => ∃ k : Nat, k ≤ len ∧ i = .int .i64 k ∧ J (upto (fun j => zs[j]?.getD 0) k) wr ∧ Below n₀ W wr)
    (fun i _ => len - (intOf i).toNat)
  case atStart => exact ⟨0, Nat.zero_le _, rfl, h0, Below.refl _ _⟩
  case round =>
    obtain ⟨k, hk, rfl, hJs, hnx⟩ := hrel
    have hcx : k < len → wr.cell? (ad.add k) = some (.int .i64 (zs[k]?.getD 0)) := fun h => (hnx.cell (p := ad.add k) (by rw [add_block]; exact hb)).trans (hc k h)
    by_cases hlt : k < len
    · obtain ⟨fn, tmps, assign, body, hy, hR⟩ := hY _ (zs[k]?.getD 0) wr hJs (by rw [upto_length]; exact hlt)
      have hcx' := hcx hlt
      gi_wp2
      refine hR.mono ?_
      rintro e W3 (⟨rfl, hJ3, hk3⟩ | ⟨rfl, hJx3⟩)
      · gi_wp2
        go_roundw
        case rel => exact ⟨k + 1, by omega, by simp, by rw [upto_succ]; exact hJ3, hnx.trans hk3⟩
        case measure => simp [intOf]; omega
      · gi_wp2
        refine bodyPost_ret (results_none rfl _ _ _) rfl ?_
        exact ⟨⟨_, rfl⟩, .inr ⟨_, ⟨k + 1, by omega, (upto_succ _ _).symm⟩, hJx3⟩⟩
    · obtain rfl : k = len := by omega
      gi_wp2
      go_end0
      exact ⟨⟨_, rfl⟩, .inl ⟨_, rfl, hJs⟩⟩
set_option maxRecDepth 100000 in
set_option maxHeartbeats 1000000 in
theorem val1_nil (n : Nat) (l Bs : Nat) (A : Option Addr) (c : Nat) (J : List Int → World → Prop) (W : World) (hBs : W.cell? ⟨Bs, 0, none⟩ = some (.slice A 0 c)) (h0 : J [] W) :
    CallsIn Fence.wide n Tryz.prog 114 #[.func (.yield l) #[] #[], .pointer (some ⟨Bs, 0, none⟩)] W fun e W' => (∃ v, e = .returned v) ∧ J [] W' := by
  refine callsIn_of_wp Tryz.func114 rfl trivial ?_ rfl
  simp only [Tryz.ntmps114, List.size_toArray, List.length_cons, List.length_nil, Nat.reduceAdd, Nat.reduceSub, Array.replicate_succ, Array.replicate_zero, List.push_toArray, List.append_toArray, List.nil_append, List.cons_append]
  gi_wp2
  gi_loopw [7] (fun i wr => i = .int .i64 0 ∧ J [] wr) (fun _ _ => 0)
  case atStart => exact ⟨rfl, h0⟩
  case round =>
    obtain ⟨rfl, hJs⟩ := hrel
    gi_wp2
    go_end0
    exact ⟨⟨_, rfl⟩, hJs⟩
theorem val_stops (n : Nat) (hn : 1 ≤ n) (Bs n₀ : Nat) (sv : Value) (zs : List Int) (hreach : zs.length * 8 ≤ 140737488351232) (w : World) (hBs : Bs < w.heap.size) (hn₀ : n₀ ≤ w.heap.size)
    (hc : w.cell? ⟨Bs, 0, none⟩ = some sv) (hI : Ints n₀ w sv zs) :
    SeqStopsK Fence.wide n Tryz.prog 114 #[.pointer (some ⟨Bs, 0, none⟩)] (fun x : Int => #[Value.int .i64 x]) (Below n₀) (fun ys => ys = zs) (fun pre => pre <+: zs) zs.length w := fun l J Jx W hW _ _ hY h0 => by
  have hc' := (hW.cell (p := ⟨Bs, 0, none⟩) hBs).trans hc
  rcases hI.below (hW.mono hn₀) with ⟨A, c, rfl, rfl⟩ | ⟨ad, cap, rfl, hb, hcs⟩
  · exact (val1_nil n l Bs A c J W hc' h0).mono fun e W' ⟨he, hj⟩ => ⟨he, .inl ⟨_, rfl, hj⟩⟩
  · refine (val1_in n hn l Bs n₀ ad zs.length cap zs hreach hb J Jx hY W hc' hcs h0).mono ?_
    rintro e W' ⟨he, ⟨ys, rfl, hj⟩ | ⟨pre, ⟨k, hk, rfl⟩, hj⟩⟩
    · exact ⟨he, .inl ⟨_, upto_all zs, hj⟩⟩
    · exact ⟨he, .inr ⟨_, by rw [upto_take zs hk]; exact List.take_prefix _ _, hj⟩⟩
theorem info3 : (Tryz.prog.info? 3).map (fun i => (i.zero, i.size, i.bytes)) = some (some (.int .i64 0), 1, 8) := by kernel_rfl
set_option maxRecDepth 100000 in
set_option maxHeartbeats 2000000 in
theorem app_in (n : Nat) (hn : 3 ≤ n) (Bs : Nat) (sv : Value) (zs : List Int) (hlen : zs.length ≤ maxLen) (hreach : zs.length * 8 ≤ 140737488351232) (w : World) (hBs : Bs < w.heap.size)
    (hc : w.cell? ⟨Bs, 0, none⟩ = some sv) (hI : Ints w.heap.size w sv zs) :
    CallsIn Fence.wide n Tryz.prog 118 #[.slice none 0 0, .func (.func 114) #[] #[.pointer (some ⟨Bs, 0, none⟩)]] w fun e W' =>
      ∃ v, e = .returned v ∧ W'.ownsRow w.heap.size 3 1 v zs.length (zs.map (Value.int .i64)) ∧ (v = .slice none 0 0 ↔ zs = []) ∧ Below w.heap.size w W' := by
  have h1 : 1 ≤ n := by omega
  obtain ⟨i0, hi, hz0, hz1, hz2⟩ := info_parts info3
  refine callsIn_of_wp_marks Tryz.func118 rfl trivial ?_ rfl
  simp only [Tryz.ntmps118, List.size_toArray, List.length_cons, List.length_nil, Nat.reduceAdd, Nat.reduceSub, Array.replicate_succ, Array.replicate_zero, List.push_toArray, List.append_toArray, List.nil_append, List.cons_append]
  gi_wp2
  have bO := Boxed.new w 69 (.slice none 0 0)
  have hB0 : Below w.heap.size w (w.alloc (.cells #[.slice none 0 0] 69)) := (Below.refl _ w).alloc (Nat.le_refl _) _
  refine wpIn_rangeFunc_ownG (F := Fence.wide) rfl h1 (gf := 114) (lb := #[.pointer (some ⟨Bs, 0, none⟩)]) rfl trivial (enters_of Tryz.func114 (by kernel_rfl) rfl)
    (val_stops (n - 1) (by omega) Bs w.heap.size _ zs hreach _ (by simp; omega) (by simp) ((hB0.cell (p := ⟨Bs, 0, none⟩) hBs).trans hc) (hI.below hB0)) belowK_t (belowK_b (by simp)) (Below.refl _ _) (fun _ => rfl)
    (fun pre W => (∃ v, Boxed W w.heap.size 69 v ∧ W.ownsRow w.heap.size 3 1 v pre.length (pre.map (Value.int .i64)) ∧ (v = .slice none 0 0 ↔ pre = [])) ∧ Below w.heap.size w W)
    (fun _ _ _ => False)
    (OwnFrom.and (Own.from (holdsRow_own w.heap.size w.heap.size 69 3 1 (fun pre => pre.length) (fun pre => pre.map (Value.int .i64)) (fun pre v => v = .slice none 0 0 ↔ pre = [])) _) (ownFrom_below (Nat.le_refl _) (by simp)))
    (fun _ _ _ _ _ hs _ _ => hs)
    ⟨⟨_, bO, World.ownsRow_nil _ _ _ _, by simp⟩, hB0⟩
    (fun x => { tmps := #[.slice none 0 0, .func (.func 114) #[] #[.pointer (some ⟨Bs, 0, none⟩)], .pointer (some ⟨w.heap.size, 0, none⟩), undef, .slice none 0 0, .int .i64 x, .func (.func 114) #[] #[.pointer (some ⟨Bs, 0, none⟩)], .int .i64 x, undef, undef, undef, undef, undef], defers := [] }) ?assign ?body ?done ?stop
  case assign =>
    intro l x W K hK
    gi_wp2
    exact hK
  case body =>
    rintro l pre x W ⟨⟨v, hv, hrow, hnil⟩, hB⟩ hlt
    have hc := hv.cell
    gi_wp2_with (gi_at_builtin; refine wpListIn_append_own _ rfl _ _ 69 rfl w.heap.size 3 i0 (.int .i64 0) 1 8 Tryz.underlying69 hi hz0 hz1 hz2 rfl (by decide) _ _ _ rfl (hrow.alloc _) ⟨W.heap.size, 0, none⟩ 1 1 [.int .i64 x] rfl rfl (cell_one_new _ _ _) (by simp [Value.oneCell']) (by omega) (by omega) (by have := hB.size; simp; omega) ?_; intro v' w1 hown' hgrow _; obtain ⟨g', cap', rfl⟩ := ownsRow_succ hown'; obtain ⟨hv1, hv2, hr2, hk2, hb2⟩ := hv.appended (by decide) hrow hB.size (Nat.le_refl _) hown' hgrow; have hc1 := hv1.cell; have hf1 := hv1.frozen)
    exact ⟨hk2.from _, hb2, ⟨_, hv2, by simpa using hr2, by simp⟩, hB.trans hb2⟩
  case done =>
    rintro D ys W hD rfl ⟨⟨v, hv, hrow, hnil⟩, hB⟩ hK
    have hc := hv.cell
    gi_wp2
    refine ⟨by simp, .inl ⟨_, _, rfl, run_takeDeferred hK, ?_⟩⟩
    exact ⟨_, results_tmp rfl _ _ _, v, rfl, ownsRow_putObj hrow _ hK rfl, hnil, hB.trans (belowK_b (w := w) (Nat.le_refl _) W D _ _ (by simp at hD; omega) hK rfl rfl)⟩
  case stop =>
    rintro D c pre W _ _ h _
    exact h.elim
set_option maxHeartbeats 1000000 in
theorem collect_in (n : Nat) (hn : 4 ≤ n) (Bs : Nat) (sv : Value) (zs : List Int) (hlen : zs.length ≤ maxLen) (hreach : zs.length * 8 ≤ 140737488351232) (w : World) (hBs : Bs < w.heap.size)
    (hc : w.cell? ⟨Bs, 0, none⟩ = some sv) (hI : Ints w.heap.size w sv zs) :
    CallsIn Fence.wide n Tryz.prog 112 #[.func (.func 114) #[] #[.pointer (some ⟨Bs, 0, none⟩)]] w fun e W' =>
      ∃ v, e = .returned v ∧ W'.ownsRow w.heap.size 3 1 v zs.length (zs.map (Value.int .i64)) ∧ (v = .slice none 0 0 ↔ zs = []) ∧ Below w.heap.size w W' := by
  refine callsIn_of_wp Tryz.func112 rfl trivial ?_ rfl
  simp only [Tryz.ntmps112, List.size_toArray, List.length_cons, List.length_nil, Nat.reduceAdd, Nat.reduceSub, Array.replicate_succ, Array.replicate_zero, List.push_toArray, List.append_toArray, List.nil_append, List.cons_append]
  have h1 : 1 ≤ n := by omega
  have hfA : Fence.wide.fn 118 := trivial
  have cA := app_in (n - 1) (by omega) Bs sv zs hlen hreach w hBs hc hI
  gi_wp2_with (gi_at_call 118; refine cA.mono ?_; rintro e w' ⟨v, rfl, hrow, hnil, hb⟩)
  go_ret
  exact ⟨v, rfl, hrow, hnil, hb⟩
def srt (zs : List Int) : List Int := zs.mergeSort (fun x y => decide (x ≤ y))
theorem srt_length (zs : List Int) : (srt zs).length = zs.length := List.length_mergeSort _
set_option maxHeartbeats 1000000 in
theorem sorted_in (n : Nat) (hn : 5 ≤ n) (Bs : Nat) (sv : Value) (zs : List Int) (hlen : zs.length ≤ maxLen) (hreach : zs.length * 8 ≤ 140737488351232) (w : World) (hBs : Bs < w.heap.size)
    (hc : w.cell? ⟨Bs, 0, none⟩ = some sv) (hI : Ints w.heap.size w sv zs) :
    CallsIn Fence.wide n Tryz.prog 103 #[.func (.func 114) #[] #[.pointer (some ⟨Bs, 0, none⟩)]] w fun e W' =>
      ∃ v, e = .returned v ∧ W'.ownsRow w.heap.size 3 1 v zs.length ((srt zs).map (Value.int .i64)) ∧ Below w.heap.size w W' := by
  refine callsIn_of_wp Tryz.func103 rfl trivial ?_ rfl
  simp only [Tryz.ntmps103, List.size_toArray, List.length_cons, List.length_nil, Nat.reduceAdd, Nat.reduceSub, Array.replicate_succ, Array.replicate_zero, List.push_toArray, List.append_toArray, List.nil_append, List.cons_append]
  have h1 : 1 ≤ n := by omega
  have hfC : Fence.wide.fn 112 := trivial
  have hfS : Fence.wide.fn 113 := trivial
  have cC := collect_in (n - 1) (by omega) Bs sv zs hlen hreach w hBs hc hI
  gi_wp2_with (gi_at_call 112; refine cC.mono ?_; rintro e W ⟨v, rfl, hrow, hnil, hb⟩)
  rcases hrow.2 with ⟨rfl, hz⟩ | ⟨gb, cap, cur, rfl, hbase, hgb, r1, r2, r3, r4⟩
  · have hss : zs = [] := List.eq_nil_of_length_eq_zero hz
    subst hss
    have cS : CallsIn Fence.wide (n - 1) Tryz.prog 113 #[.slice none 0 0] W fun e w' => e = .returned (.tuple #[]) ∧ w' = W := callsIn_wide.2 (Tryz.slices_Sort_int_none none 0 W)
    gi_wp2_with (gi_at_call 113; refine cS.mono ?_; rintro e w' ⟨rfl, rfl⟩)
    go_ret
    exact ⟨.slice none 0 0, rfl, by simpa [srt] using hrow, hb⟩
  · have hH : Holds (Value.int .i64) W gb 0 zs.toArray := holds_of_blockI hgb (by simpa using r4)
    have hgl : gb < W.heap.size := (Array.getElem?_eq_some_iff.1 hgb).1
    have hsz : zs.length < 4611686018427387904 := by omega
    have cS := (callsIn_wide (n := n - 1)).2 (Tryz.slices_Sort_int gb 0 cap zs W hH hgl hsz)
    gi_wp2_with (gi_at_call 113; refine cS.mono ?_; rintro e w' ⟨rfl, nn, os, rfl⟩)
    go_ret
    exact ⟨_, rfl, ownsRow_sortedI (srt_length zs) hbase hgb r1 r2 r3, hb.grown (grownBy_sortedI _) hb.size (fun j hj => by cases hj; exact hbase)⟩
set_option maxHeartbeats 1000000 in
theorem values_in (n : Nat) (A : Option Addr) (len cap : Nat) (w : World) :
    CallsIn Fence.wide n Tryz.prog 104 #[.slice A len cap] w fun e w' => e = .returned (.func (.func 114) #[] #[.pointer (some ⟨w.heap.size, 0, none⟩)]) ∧ w' = w.alloc (.cells #[.slice A len cap] 69) := by
  refine callsIn_of_wp Tryz.func104 rfl trivial ?_ rfl
  simp only [Tryz.ntmps104, List.size_toArray, List.length_cons, List.length_nil, Nat.reduceAdd, Nat.reduceSub, Array.replicate_succ, Array.replicate_zero, List.push_toArray, List.append_toArray, List.nil_append, List.cons_append]
  gi_wp2
  go_ret
  exact ⟨rfl, rfl⟩
theorem ints_of_C {w : World} {A : Option Addr} {n c : Nat} {l : List Int} (h : Kd.C (Kd.int .i64) w A n l) : Ints w.heap.size w (.slice A n c) l := by
  obtain ⟨rfl, _, hp⟩ := h
  cases l with
  | nil => exact .inl ⟨A, c, rfl, rfl⟩
  | cons x l =>
    obtain ⟨ad, rfl, hrow⟩ := hp (by simp)
    have hc : ∀ j, j < (x :: l).length → w.cell? (ad.add j) = some (.int .i64 ((x :: l)[j]?.getD 0)) := fun j hj => by
      obtain ⟨c, hcl, hK, hcc⟩ := hrow j _ (List.getElem?_eq_getElem hj)
      have hK' : c = [Value.int .i64 ((x :: l)[j])] := hK
      have := hcc 0 (.int .i64 ((x :: l)[j])) (by rw [hK']; rfl)
      rw [List.getElem?_eq_getElem hj]
      simpa [Kd.int, Kd.scalar] using this
    refine .inr ⟨ad, c, rfl, ?_, hc⟩
    have h6 := World.block_lt_of_cell? w _ (hc 0 (by simp))
    rwa [add_block] at h6
theorem row_cell {W : World} {base n k : Nat} {v : Value} {zs : List Int} (h : W.ownsRow base 3 1 v n (zs.map (Value.int .i64))) (hl : zs.length = n) (hk : k < n) :
    ∃ g cap, v = .slice (some ⟨g, 0, none⟩) n cap ∧ W.cell? ⟨g, k, none⟩ = some (.int .i64 (zs.getD k 0)) := by
  rcases h.2 with ⟨_, hz⟩ | ⟨g, cap, cur, rfl, _, hgb, _, _, _, r4⟩
  · omega
  · refine ⟨g, cap, rfl, ?_⟩
    have e : (cur.toList.take (n * 1))[k]? = (zs.map (Value.int .i64))[k]? := by rw [r4]
    rw [List.getElem?_take_of_lt (by omega), List.getElem?_map, List.getElem?_eq_getElem (show k < zs.length by omega)] at e
    rw [blk_cell hgb, ← Array.getElem?_toList, e, List.getD_eq_getElem?_getD, List.getElem?_eq_getElem (show k < zs.length by omega)]
    rfl
def least (k : Int) (l : List Int) : Int := if 0 ≤ k ∧ k < (l.length : Int) then (srt l).getD k.toNat 0 else 0
def has (k : Int) (l : List Int) : Bool := decide (0 ≤ k ∧ k < (l.length : Int))
set_option maxHeartbeats 2000000 in
theorem least_calls (k : Int) (A : Option Addr) (n c : Nat) (l : List Int) (w : World) (hr : Kd.C (Kd.int .i64) w A n l) (hreach : l.length * 8 ≤ 140737488351232) :
    Calls Tryz.prog 91 #[.int .i64 k, .slice A n c] w fun e w' => e = .returned (.tuple #[.int .i64 (least k l), .bool (has k l)]) ∧ Below w.heap.size w w' := by
  have hI : Ints w.heap.size w (.slice A n c) l := ints_of_C hr
  obtain ⟨rfl, hm, -⟩ := hr
  refine (callsIn_wide (n := 8)).1 ?_
  have hfV : Fence.wide.fn 104 := trivial
  have hfS : Fence.wide.fn 103 := trivial
  refine callsIn_of_wp Tryz.func91 rfl trivial ?_ rfl
  simp only [Tryz.ntmps91, List.size_toArray, List.length_cons, List.length_nil, Nat.reduceAdd, Nat.reduceSub, Array.replicate_succ, Array.replicate_zero, List.push_toArray, List.append_toArray, List.nil_append, List.cons_append]
  by_cases h0 : k < 0
  · have e1 : least k l = 0 := by unfold least; rw [if_neg (by omega)]
    have e2 : has k l = false := by unfold has; exact decide_eq_false (by omega)
    rw [e1, e2]
    gi_wp2
    refine bodyPost_ret (results_tmp2 rfl _ _ _) rfl ?_
    exact ⟨rfl, Below.refl _ _⟩
  · by_cases h1 : k < (l.length : Int)
    · have e1 : least k l = (srt l).getD k.toNat 0 := by unfold least; rw [if_pos (by omega)]
      have e2 : has k l = true := by unfold has; exact decide_eq_true (by omega)
      rw [e1, e2]
      have hb1 : Below w.heap.size w (w.alloc (.cells #[.slice A l.length c] 69)) := (Below.refl _ w).alloc (Nat.le_refl _) _
      have cV := values_in 7 A l.length c w
      have cS := sorted_in 7 (by omega) w.heap.size (.slice A l.length c) l (by unfold maxLen; omega) hreach (w.alloc (.cells #[.slice A l.length c] 69)) (by simp) (by simp) ((hI.below hb1).mono (by simp))
      gi_wp2_with (first
        | (gi_at_call 104; refine cV.mono ?_; rintro e w' ⟨rfl, rfl⟩)
        | (gi_at_call 103; refine cS.mono ?_; rintro e W ⟨v, rfl, hrow, hb⟩; obtain ⟨gb, cap, rfl, hcell⟩ := row_cell hrow (srt_length l) (k := k.toNat) (by omega)))
      refine bodyPost_ret (results_tmp2 rfl _ _ _) rfl ?_
      exact ⟨rfl, hb1.trans (hb.mono (by simp))⟩
    · have e1 : least k l = 0 := by unfold least; rw [if_neg (by omega)]
      have e2 : has k l = false := by unfold has; exact decide_eq_false (by omega)
      rw [e1, e2]
      gi_wp2
      refine bodyPost_ret (results_tmp2 rfl _ _ _) rfl ?_
      exact ⟨rfl, Below.refl _ _⟩
end Go.Proofs.YtbmfgcekglgliaaGreat.So

namespace Go.Proofs.YtbmfgcekglgliaaGreat.X
open Go.RowKit Go.Proofs.YtbmfgcekglgliaaGreatW.PrintWords Go.Proofs.YtbmfgcekglgliaaGreatW.PrintLast Go.Proofs.YtbmfgcekglgliaaGreatW.PrintMore
def trim_Least.f (a0 : Int) (l1 : List Int) : Option (Int × Bool) := if l1.length * 8 ≤ 140737488351232 then some (So.least a0 l1, So.has a0 l1) else none
theorem trim_Least.calls (a0 : Int) (A1 : Option Addr) (c1 : Nat) (l1 : List Int) (r1 : Int) (r2 : Bool) (w : World) (hr1 : Kd.C (Kd.int .i64) w A1 l1.length l1) (_hc1 : l1.length ≤ c1) (h : trim_Least.f a0 l1 = some (r1, r2)) :
    Calls Tryz.prog 91 #[.int .i64 a0, .slice A1 l1.length c1] w fun e w' => e = .returned (.tuple #[.int .i64 r1, .bool r2]) ∧ Below w.heap.size w w' := by
  unfold trim_Least.f at h
  split at h
  · rename_i hl
    obtain ⟨rfl, rfl⟩ := Prod.mk.inj (Option.some.inj h)
    exact So.least_calls a0 A1 l1.length c1 l1 w hr1 hl
  · cases h
end Go.Proofs.YtbmfgcekglgliaaGreat.X
