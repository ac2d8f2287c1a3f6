/- alarm: slices.BinarySearchFunc at timers that stand in order. -/
import Derived.Test.YtcopnddmkmgihaaAg9
import Derived.Test.YtcopnddmkmgihaaY1
namespace Go.Proofs.Ytcopnddmkmgihaa.Ak
open Go.RowKit Go.Proofs.YtcopnddmkmgihaaW.PrintWords Go.Proofs.YtcopnddmkmgihaaW.PrintLast Go.Proofs.YtcopnddmkmgihaaW.PrintMore Go.Proofs.YtcopnddmkmgihaaEv
set_option linter.unusedVariables false
set_option linter.unusedSimpArgs false
open Go.Proofs.Ytcopnddmkmgihaa.Y
/-- A timer stands ahead of another: by times, then numbers. -/
def less (a b : Int × Int) : Bool := decide (a.2 < b.2 ∨ a.2 = b.2 ∧ a.1 < b.1)
def cmpT (a b : Int × Int) : Int := if a.2 < b.2 then -1 else if a.2 > b.2 then 1 else if a.1 < b.1 then -1 else if a.1 > b.1 then 1 else 0
theorem less_trans {a b c : Int × Int} (h : less a b = true) (g : less b c = true) : less a c = true := by
  simp only [less, decide_eq_true_eq] at *
  omega
theorem cmpT_less (a b : Int × Int) : cmpT a b < 0 ↔ less a b = true := by
  simp only [less, decide_eq_true_eq]
  unfold cmpT
  repeat' split
  all_goals omega
theorem Compare_f (a b : Int) : cmp_Compare_int.f a b = some (if a < b then -1 else if a > b then 1 else 0) := by
  unfold cmp_Compare_int.f cmp_isNaN_int.f
  simp only [bne_self_eq_false, Option.bind_some]
  rw [if_neg (by simp), if_neg (by simp)]
  by_cases h : a < b
  · rw [if_pos h, if_pos h]
  · rw [if_neg h, if_neg h]
    by_cases g : a > b
    · rw [if_pos g, if_pos g]
    · rw [if_neg g, if_neg g]
theorem Or_f (k : Nat) (x y : Int) : cmp_Or_int.f (k + 3) [x, y] = some (if x = 0 then y else x) := by
  unfold cmp_Or_int.f
  have w1 : wrap64 (0 + 1) = 1 := by unfold wrap64; decide
  have w2 : wrap64 (1 + 1) = 2 := by unfold wrap64; decide
  simp only [cmp_Or_int.l0, rd, w1, w2]
  by_cases hx : x = 0
  · by_cases hy : y = 0
    · simp [hx, hy]
    · simp [hx, hy]
  · simp [hx]
theorem Set1_f (a b : Int × Int) : alarm_Table_Set_1.f 3 a.1 a.2 b.1 b.2 = some (cmpT a b) := by
  unfold alarm_Table_Set_1.f
  rw [Compare_f, Compare_f]
  simp only [Option.bind_some]
  rw [Or_f 0]
  simp only [Option.bind_some]
  congr 1
  unfold cmpT
  repeat' split
  all_goals omega
theorem cmp_calls (a b : Int × Int) (w : World) : Calls Try.prog 36 #[.agg #[.int .i64 a.1, .int .i64 a.2], .agg #[.int .i64 b.1, .int .i64 b.2]] w fun e w' => e = .returned (.int .i64 (cmpT a b)) ∧ Below w.heap.size w w' :=
  alarm_Table_Set_1.calls 3 a.1 a.2 b.1 b.2 (cmpT a b) w (Set1_f a b)
/-- The timers stand in order. -/
def Ord (l : List (Int × Int)) : Prop := l.Pairwise (fun a b => less a b = true)
/-- Where a timer would stand. -/
def pos (l : List (Int × Int)) (x : Int × Int) : Nat := l.findIdx (fun y => !less y x)
/-- Whether it stands there. -/
def fnd (l : List (Int × Int)) (x : Int × Int) : Bool := match l[pos l x]? with | some p => cmpT p x == 0 | none => false
theorem pos_eq {l : List (Int × Int)} {x : Int × Int} {k : Nat} (hk : k ≤ l.length) (h1 : ∀ m (hm : m < l.length), m < k → less l[m] x = true) (h2 : ∀ m (hm : m < l.length), k ≤ m → less l[m] x = false) : pos l x = k := by
  unfold pos
  by_cases g : k < l.length
  · refine (List.findIdx_eq g).2 ⟨by simp [h2 k g (Nat.le_refl _)], fun j hj => by simp [h1 j (by omega) hj]⟩
  · obtain rfl : k = l.length := by omega
    rw [List.findIdx_eq_length]
    intro y hy
    obtain ⟨j, hj, rfl⟩ := List.mem_iff_getElem.1 hy
    simp [h1 j hj hj]
theorem ord_get {l : List (Int × Int)} (h : Ord l) {i j : Nat} (hj : j < l.length) (hij : i < j) : less l[i] l[j] = true := (List.pairwise_iff_getElem.1 h) i j (by omega) hj hij
section
variable {P : Program} {ops : Array Oper} {rest : List Oper} {o : Oper} {a : Act} {Q : Act → Prop}
theorem qg_callv {C : World → Prop} {f : Operand} {xs : Array Operand} {ts : Array TypeId} (_ho : o.op = .call { callee := .value f, args := xs, argTypes := ts }) (h : wpQuiet P ops C Q (o :: rest) a) : wpQuiet P ops C Q (o :: rest) a := h
end
set_option maxRecDepth 100000 in
set_option maxHeartbeats 4000000 in
theorem Search_nil (w : World) (A : Option Addr) (c : Nat) (x : Int × Int) :
    Calls Try.prog 35 #[.slice A 0 c, .agg #[.int .i64 x.1, .int .i64 x.2], .func (.func 36) #[] #[]] w fun e w' => e = .returned (.tuple #[.int .i64 0, .bool false]) ∧ Below w.heap.size w w' := by
  have H := Fr.start (A := fun _ => False) (w := w) (p := fun _ => True) (fun _ h => h.elim) (Tr.true _ _)
  go_enter Try.func35, Try.ntmps35
  go_wp2_with (first
    | ((with_reducible refine gate_dst (N := 4) rfl ?_); refine fr_box H rfl rfl rfl ?_; intro g4 w4 H1; clear H; have H := H1; clear H1)
    | ((with_reducible refine gate_dst (N := 29) rfl ?_); refine fr_load H rfl rfl rfl (by repeat (first | exact At.head | apply At.tail)) Try.underlying68 rfl (by kernel_rfl) ?_)
    | ((with_reducible refine gate_dst (N := 45) rfl ?_); (try (refine gate_guard (by rfl) ?_; dsimp only)); refine fr_load H rfl rfl rfl (by repeat (first | exact At.head | apply At.tail)) Try.underlying68 rfl (by kernel_rfl) ?_)
    | fail)
  refine wp_loop_rounds 1 ?_
  rw [rounds_succ]
  go_wp2
  refine fr_region H (by kernel_rfl) (by kernel_rfl) ?_
  clear H
  repeat (first
    | go_big_quiet_skip
    | ((with_reducible refine qg_move rfl ?_); go_big_quiet_want; go_big_quiet_op; go_big_quiet_on)
    | ((with_reducible refine qg_assign rfl ?_); go_big_quiet_want; go_big_quiet_op; go_big_quiet_on)
    | ((with_reducible refine qg_load rfl ?_); first | (refine q_load (by rfl) rfl rfl (by (repeat (first | exact At.head | apply At.tail)); done) (by first | exact Try.underlying68 | exact Try.underlying3) (by rfl) (by kernel_rfl) ?_; simp only [Act.put, List.setIfInBounds_toArray, List.set_cons_zero, List.set_cons_succ]) | (refine q_get (by rfl) rfl rfl (by (repeat (first | exact At.head | apply At.tail)); done) (by first | exact Try.underlying68 | exact Try.underlying3) (by rfl) (by simp only [List.getElem?_toArray, List.getElem?_cons_succ, List.getElem?_cons_zero]; rfl) ?_; simp only [Act.put, List.setIfInBounds_toArray, List.set_cons_zero, List.set_cons_succ]) | (refine q_sub2 (by rfl) rfl rfl (by (repeat (first | exact At.head | apply At.tail)); done) (by first | exact Try.underlying68 | exact Try.underlying3) (by rfl) (by kernel_rfl) (by simp only [List.getElem?_toArray, List.getElem?_cons_succ, List.getElem?_cons_zero]; rfl) (by simp only [List.getElem?_toArray, List.getElem?_cons_succ, List.getElem?_cons_zero]; rfl) ?_; simp only [Act.put, List.setIfInBounds_toArray, List.set_cons_zero, List.set_cons_succ]))
    | (refine q_pureK (by rfl) (fun W K hK => by go_simp; exact hK.out) ?_; simp only [Act.put, List.setIfInBounds_toArray, List.set_cons_zero, List.set_cons_succ]))
  refine q_end ?_
  intro W1 H
  go_wp2
  go_ret2
  exact ⟨rfl, H.below⟩
set_option maxRecDepth 100000 in
set_option maxHeartbeats 8000000 in
theorem Search_calls (w : World) (v : Value) (l : List (Int × Int)) (h : Rw 68 w v l) (ho : Ord l) (hl : l.length ≤ 4096) (x : Int × Int) :
    Calls Try.prog 35 #[v, .agg #[.int .i64 x.1, .int .i64 x.2], .func (.func 36) #[] #[]] w fun e w' => e = .returned (.tuple #[.int .i64 (pos l x : Int), .bool (fnd l x)]) ∧ Below w.heap.size w w' := by
  obtain ⟨A, c, rfl, hrow⟩ := h.slice
  clear h
  rcases Nat.eq_zero_or_pos l.length with h0 | h0
  · rw [h0]
    have : l = [] := List.eq_nil_of_length_eq_zero h0
    subst this
    exact Search_nil w A c x
  · obtain ⟨g, cur, rfl, hg, hcur⟩ := hrow h0
    clear hrow
    have hp : Tr (fun _ => False) w (fun W => ∀ k (hk : k < l.length), ∀ j u, [Value.int .i64 l[k].1, Value.int .i64 l[k].2][j]? = some u → W.cell? ((⟨g, k * 2, none⟩ : Addr).add j) = some u) :=
      fun W' hW k hk => elem_cells ((hW g (fun q => q) (blk_lt hg)).trans hg) hcur k hk
    have H := Fr.start (A := fun _ => False) (w := w) (fun _ h => h.elim) hp
    obtain ⟨z, hz⟩ : ∃ z, pos l x = z := ⟨_, rfl⟩
    obtain ⟨b, hb⟩ : ∃ b, fnd l x = b := ⟨_, rfl⟩
    rw [hz, hb]
    have HBV := Lib.hid hb
    have HZ := Lib.hid hz
    clear hb
    have HPOS := Lib.hid (fun k (hk : k ≤ l.length) h1 h2 => hz.symm.trans (pos_eq (l := l) (x := x) (k := k) hk h1 h2))
    clear hz
    have HO := Lib.hid ho
    clear hp hg hcur ho
    obtain ⟨n, hn⟩ : ∃ n, l.length = n := ⟨_, rfl⟩
    rw [hn] at hl h0 ⊢
    have HN := Lib.hid hn
    clear hn
    go_enter Try.func35, Try.ntmps35
    go_wp2_with (first
      | ((with_reducible refine gate_dst (N := 4) rfl ?_); refine fr_box H rfl rfl rfl ?_; intro g4 w4 H1; clear H; have H := H1; clear H1)
      | ((with_reducible refine gate_dst (N := 29) rfl ?_); refine fr_load H rfl rfl rfl (by repeat (first | exact At.head | apply At.tail)) Try.underlying68 rfl (by kernel_rfl) ?_)
      | ((with_reducible refine gate_dst (N := 45) rfl ?_); (try (refine gate_guard (by rfl) ?_; dsimp only)); refine fr_load H rfl rfl rfl (by repeat (first | exact At.head | apply At.tail)) Try.underlying68 rfl (by kernel_rfl) ?_)
      | fail)
    go_loopw [9, 10] (fun v9 v10 wr => ∃ i j : Nat, v9 = .int .i64 i ∧ v10 = .int .i64 j ∧ i ≤ j ∧ j ≤ n ∧ Hid (∀ m (hm : m < l.length), m < i → less l[m] x = true) ∧ Hid (∀ m (hm : m < l.length), j ≤ m → less l[m] x = false) ∧
        Fr (fun _ => False) w wr [(g4, 68, #[.int .i64 x.1, .int .i64 x.2])] (fun W => ∀ k (hk : k < l.length), ∀ j u, [Value.int .i64 l[k].1, Value.int .i64 l[k].2][j]? = some u → W.cell? ((⟨g, k * 2, none⟩ : Addr).add j) = some u))
      (fun v9 v10 _ => (intOf v10).toNat - (intOf v9).toNat)
    case atStart => exact ⟨0, n, rfl, rfl, by omega, by omega, Lib.hid (fun m _ hm => absurd hm (by omega)), Lib.hid (fun m hm h => by rw [HN.out] at hm; omega), H⟩
    case round =>
      obtain ⟨i, j, rfl, rfl, hij, hjn, H1, H2, H⟩ := hrel
      by_cases hlt : i < j
      · obtain ⟨q, hq⟩ : ∃ q : Nat, (i + j) / 2 = q := ⟨_, rfl⟩
        have hq1 : i ≤ q := by omega
        have hq2 : q < j := by omega
        have hql : q < l.length := by rw [HN.out]; omega
        have e3 : ((i : Int) + (j : Int)) / 2 = (q : Int) := by omega
        have hqn : (q : Int) < (n : Int) := by omega
        have HQ := Lib.hid hq
        obtain ⟨p, hp⟩ : ∃ p, l[q] = p := ⟨_, rfl⟩
        have HPQ := Lib.hid hp
        have H3 := H.imp (q := fun W => (∀ k (hk : k < l.length), ∀ j u, [Value.int .i64 l[k].1, Value.int .i64 l[k].2][j]? = some u → W.cell? ((⟨g, k * 2, none⟩ : Addr).add j) = some u) ∧ ∀ j u, [Value.int .i64 p.1, Value.int .i64 p.2][j]? = some u → W.cell? ((⟨g, q * 2, none⟩ : Addr).add j) = some u) (fun W h => ⟨h, by rw [← hp]; exact h q hql⟩)
        clear hp H hq
        have H := H3
        clear H3
        by_cases hc : less p x = true
        · have hneg : cmpT p x < 0 := (cmpT_less p x).2 hc
          have HC := Lib.hid hc
          clear hc
          go_wp2
          refine fr_region H (by kernel_rfl) (by kernel_rfl) ?_
          clear H
          repeat (first
            | go_big_quiet_skip
            | ((with_reducible refine qg_move rfl ?_); go_big_quiet_want; go_big_quiet_op; go_big_quiet_on)
            | ((with_reducible refine qg_assign rfl ?_); go_big_quiet_want; go_big_quiet_op; go_big_quiet_on)
            | ((with_reducible refine qg_load rfl ?_); first | (refine q_load (by rfl) rfl rfl (by (repeat (first | exact At.head | apply At.tail)); done) (by first | exact Try.underlying68 | exact Try.underlying3) (by rfl) (by kernel_rfl) ?_; simp only [Act.put, List.setIfInBounds_toArray, List.set_cons_zero, List.set_cons_succ]) | (refine q_get (by rfl) rfl rfl (by (repeat (first | exact At.head | apply At.tail)); done) (by first | exact Try.underlying68 | exact Try.underlying3) (by rfl) (by simp only [List.getElem?_toArray, List.getElem?_cons_succ, List.getElem?_cons_zero]; rfl) ?_; simp only [Act.put, List.setIfInBounds_toArray, List.set_cons_zero, List.set_cons_succ]) | (refine q_sub2 (by rfl) rfl rfl (by (repeat (first | exact At.head | apply At.tail)); done) (by first | exact Try.underlying68 | exact Try.underlying3) (by rfl) (by kernel_rfl) (by simp only [List.getElem?_toArray, List.getElem?_cons_succ, List.getElem?_cons_zero]; rfl) (by simp only [List.getElem?_toArray, List.getElem?_cons_succ, List.getElem?_cons_zero]; rfl) ?_; simp only [Act.put, List.setIfInBounds_toArray, List.set_cons_zero, List.set_cons_succ]))
            | ((with_reducible refine qg_callv rfl ?_); refine q_call (by rfl) (f := 36) (args := #[.agg #[.int .i64 p.1, .int .i64 p.2], .agg #[.int .i64 x.1, .int .i64 x.2]]) (fun W => by first | (go_simp; done) | (go_simp; rfl)) (fun W H => cmp_calls p x W) ?_; simp only [Act.put, List.setIfInBounds_toArray, List.set_cons_zero, List.set_cons_succ])
            | ((with_reducible refine qg_load rfl ?_); refine q_cells (by rfl) rfl (ad := ⟨g, q * 2, none⟩) (cs := [.int .i64 p.1, .int .i64 p.2]) (by first | rfl | (go_simp; done) | (go_simp; rfl)) Try.underlying68 rfl (by kernel_rfl) (fun W h => h.2) ?_; simp only [Act.put, List.setIfInBounds_toArray, List.set_cons_zero, List.set_cons_succ])
            | (refine q_pureK (by rfl) (fun W K hK => by go_simp; exact hK.out) ?_; simp only [Act.put, List.setIfInBounds_toArray, List.set_cons_zero, List.set_cons_succ]))
          refine q_end ?_
          intro W1 H
          go_wp2
          go_roundw
          case rel =>
            refine ⟨q + 1, j, by simp, rfl, by omega, hjn, Lib.hid (fun m hm hlt => ?_), H2, H.imp (fun W h => h.1)⟩
            by_cases e : m = q
            · subst e; rw [HPQ.out]; exact HC.out
            · exact less_trans (ord_get HO.out hql (show m < q by omega)) (by rw [HPQ.out]; exact HC.out)
          case measure => simp [intOf]; omega
        · have hneg : ¬ cmpT p x < 0 := fun h => hc ((cmpT_less p x).1 h)
          have HC := Lib.hid hc
          clear hc
          go_wp2
          refine fr_region H (by kernel_rfl) (by kernel_rfl) ?_
          clear H
          repeat (first
            | go_big_quiet_skip
            | ((with_reducible refine qg_move rfl ?_); go_big_quiet_want; go_big_quiet_op; go_big_quiet_on)
            | ((with_reducible refine qg_assign rfl ?_); go_big_quiet_want; go_big_quiet_op; go_big_quiet_on)
            | ((with_reducible refine qg_load rfl ?_); first | (refine q_load (by rfl) rfl rfl (by (repeat (first | exact At.head | apply At.tail)); done) (by first | exact Try.underlying68 | exact Try.underlying3) (by rfl) (by kernel_rfl) ?_; simp only [Act.put, List.setIfInBounds_toArray, List.set_cons_zero, List.set_cons_succ]) | (refine q_get (by rfl) rfl rfl (by (repeat (first | exact At.head | apply At.tail)); done) (by first | exact Try.underlying68 | exact Try.underlying3) (by rfl) (by simp only [List.getElem?_toArray, List.getElem?_cons_succ, List.getElem?_cons_zero]; rfl) ?_; simp only [Act.put, List.setIfInBounds_toArray, List.set_cons_zero, List.set_cons_succ]) | (refine q_sub2 (by rfl) rfl rfl (by (repeat (first | exact At.head | apply At.tail)); done) (by first | exact Try.underlying68 | exact Try.underlying3) (by rfl) (by kernel_rfl) (by simp only [List.getElem?_toArray, List.getElem?_cons_succ, List.getElem?_cons_zero]; rfl) (by simp only [List.getElem?_toArray, List.getElem?_cons_succ, List.getElem?_cons_zero]; rfl) ?_; simp only [Act.put, List.setIfInBounds_toArray, List.set_cons_zero, List.set_cons_succ]))
            | ((with_reducible refine qg_callv rfl ?_); refine q_call (by rfl) (f := 36) (args := #[.agg #[.int .i64 p.1, .int .i64 p.2], .agg #[.int .i64 x.1, .int .i64 x.2]]) (fun W => by first | (go_simp; done) | (go_simp; rfl)) (fun W H => cmp_calls p x W) ?_; simp only [Act.put, List.setIfInBounds_toArray, List.set_cons_zero, List.set_cons_succ])
            | ((with_reducible refine qg_load rfl ?_); refine q_cells (by rfl) rfl (ad := ⟨g, q * 2, none⟩) (cs := [.int .i64 p.1, .int .i64 p.2]) (by first | rfl | (go_simp; done) | (go_simp; rfl)) Try.underlying68 rfl (by kernel_rfl) (fun W h => h.2) ?_; simp only [Act.put, List.setIfInBounds_toArray, List.set_cons_zero, List.set_cons_succ])
            | (refine q_pureK (by rfl) (fun W K hK => by go_simp; exact hK.out) ?_; simp only [Act.put, List.setIfInBounds_toArray, List.set_cons_zero, List.set_cons_succ]))
          refine q_end ?_
          intro W1 H
          go_wp2
          go_roundw
          case rel =>
            refine ⟨i, q, rfl, rfl, hq1, by omega, H1, Lib.hid (fun m hm hle => ?_), H.imp (fun W h => h.1)⟩
            cases hl : less l[m] x with
            | false => rfl
            | true =>
              exfalso
              by_cases e : m = q
              · subst e; rw [HPQ.out] at hl; exact HC.out hl
              · exact HC.out (less_trans (by have := ord_get HO.out hm (show q < m by omega); rw [HPQ.out] at this; exact this) hl)
          case measure => simp [intOf]; omega
      · obtain rfl : i = j := by omega
        obtain rfl : z = i := HPOS.out i (by rw [HN.out]; exact hjn) (fun m hm h => H1.out m hm h) (fun m hm h => H2.out m hm h)
        clear HPOS H1 H2
        by_cases hin : z < n
        · have hil : z < l.length := by rw [HN.out]; exact hin
          have hqn : (z : Int) < (n : Int) := by omega
          obtain ⟨p, hp⟩ : ∃ p, l[z] = p := ⟨_, rfl⟩
          have H3 := H.imp (q := fun W => (∀ k (hk : k < l.length), ∀ j u, [Value.int .i64 l[k].1, Value.int .i64 l[k].2][j]? = some u → W.cell? ((⟨g, k * 2, none⟩ : Addr).add j) = some u) ∧ ∀ j u, [Value.int .i64 p.1, Value.int .i64 p.2][j]? = some u → W.cell? ((⟨g, z * 2, none⟩ : Addr).add j) = some u) (fun W h => ⟨h, by rw [← hp]; exact h z hil⟩)
          have hbv : b = (cmpT p x == 0) := by
            rw [← HBV.out]
            unfold fnd
            rw [HZ.out, List.getElem?_eq_getElem hil, hp]
          subst hbv
          clear hp H HBV HZ
          have H := H3
          clear H3 hlt
          go_wp2
          refine fr_region H (by kernel_rfl) (by kernel_rfl) ?_
          clear H
          repeat (first
            | go_big_quiet_skip
            | ((with_reducible refine qg_move rfl ?_); go_big_quiet_want; go_big_quiet_op; go_big_quiet_on)
            | ((with_reducible refine qg_assign rfl ?_); go_big_quiet_want; go_big_quiet_op; go_big_quiet_on)
            | ((with_reducible refine qg_load rfl ?_); first | (refine q_load (by rfl) rfl rfl (by (repeat (first | exact At.head | apply At.tail)); done) (by first | exact Try.underlying68 | exact Try.underlying3) (by rfl) (by kernel_rfl) ?_; simp only [Act.put, List.setIfInBounds_toArray, List.set_cons_zero, List.set_cons_succ]) | (refine q_get (by rfl) rfl rfl (by (repeat (first | exact At.head | apply At.tail)); done) (by first | exact Try.underlying68 | exact Try.underlying3) (by rfl) (by simp only [List.getElem?_toArray, List.getElem?_cons_succ, List.getElem?_cons_zero]; rfl) ?_; simp only [Act.put, List.setIfInBounds_toArray, List.set_cons_zero, List.set_cons_succ]) | (refine q_sub2 (by rfl) rfl rfl (by (repeat (first | exact At.head | apply At.tail)); done) (by first | exact Try.underlying68 | exact Try.underlying3) (by rfl) (by kernel_rfl) (by simp only [List.getElem?_toArray, List.getElem?_cons_succ, List.getElem?_cons_zero]; rfl) (by simp only [List.getElem?_toArray, List.getElem?_cons_succ, List.getElem?_cons_zero]; rfl) ?_; simp only [Act.put, List.setIfInBounds_toArray, List.set_cons_zero, List.set_cons_succ]))
            | ((with_reducible refine qg_callv rfl ?_); refine q_call (by rfl) (f := 36) (args := #[.agg #[.int .i64 p.1, .int .i64 p.2], .agg #[.int .i64 x.1, .int .i64 x.2]]) (fun W => by first | (go_simp; done) | (go_simp; rfl)) (fun W H => cmp_calls p x W) ?_; simp only [Act.put, List.setIfInBounds_toArray, List.set_cons_zero, List.set_cons_succ])
            | ((with_reducible refine qg_load rfl ?_); refine q_cells (by rfl) rfl (ad := ⟨g, z * 2, none⟩) (cs := [.int .i64 p.1, .int .i64 p.2]) (by first | rfl | (go_simp; done) | (go_simp; rfl)) Try.underlying68 rfl (by kernel_rfl) (fun W h => h.2) ?_; simp only [Act.put, List.setIfInBounds_toArray, List.set_cons_zero, List.set_cons_succ])
            | (refine q_pureK (by rfl) (fun W K hK => by go_simp; exact hK.out) ?_; simp only [Act.put, List.setIfInBounds_toArray, List.set_cons_zero, List.set_cons_succ]))
          refine q_end ?_
          intro W1 H
          go_wp2
          go_ret2
          exact ⟨rfl, H.below⟩
        · obtain rfl : z = n := by omega
          have hbv : b = false := by
            rw [← HBV.out]
            unfold fnd
            rw [HZ.out, List.getElem?_eq_none (by rw [HN.out]; exact Nat.le_refl _)]
          subst hbv
          clear hlt HBV HZ
          go_wp2
          refine fr_region H (by kernel_rfl) (by kernel_rfl) ?_
          clear H
          repeat (first
            | go_big_quiet_skip
            | ((with_reducible refine qg_move rfl ?_); go_big_quiet_want; go_big_quiet_op; go_big_quiet_on)
            | ((with_reducible refine qg_assign rfl ?_); go_big_quiet_want; go_big_quiet_op; go_big_quiet_on)
            | ((with_reducible refine qg_load rfl ?_); first | (refine q_load (by rfl) rfl rfl (by (repeat (first | exact At.head | apply At.tail)); done) (by first | exact Try.underlying68 | exact Try.underlying3) (by rfl) (by kernel_rfl) ?_; simp only [Act.put, List.setIfInBounds_toArray, List.set_cons_zero, List.set_cons_succ]) | (refine q_get (by rfl) rfl rfl (by (repeat (first | exact At.head | apply At.tail)); done) (by first | exact Try.underlying68 | exact Try.underlying3) (by rfl) (by simp only [List.getElem?_toArray, List.getElem?_cons_succ, List.getElem?_cons_zero]; rfl) ?_; simp only [Act.put, List.setIfInBounds_toArray, List.set_cons_zero, List.set_cons_succ]) | (refine q_sub2 (by rfl) rfl rfl (by (repeat (first | exact At.head | apply At.tail)); done) (by first | exact Try.underlying68 | exact Try.underlying3) (by rfl) (by kernel_rfl) (by simp only [List.getElem?_toArray, List.getElem?_cons_succ, List.getElem?_cons_zero]; rfl) (by simp only [List.getElem?_toArray, List.getElem?_cons_succ, List.getElem?_cons_zero]; rfl) ?_; simp only [Act.put, List.setIfInBounds_toArray, List.set_cons_zero, List.set_cons_succ]))
            | (refine q_pureK (by rfl) (fun W K hK => by go_simp; exact hK.out) ?_; simp only [Act.put, List.setIfInBounds_toArray, List.set_cons_zero, List.set_cons_succ]))
          refine q_end ?_
          intro W1 H
          go_wp2
          go_ret2
          exact ⟨rfl, H.below⟩
end Go.Proofs.Ytcopnddmkmgihaa.Ak
