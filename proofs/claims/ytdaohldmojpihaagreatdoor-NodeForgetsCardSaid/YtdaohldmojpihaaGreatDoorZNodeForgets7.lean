/- Texts Nr, Nc, Nl, Gp, Nz, Mb, Ms, Mw, Mn, in one file, without what is not needed here. -/
import Derived.Maps.RangeWalk
import Derived.Maps.OwnSet
import Derived.Maps.Ext
import Derived.Lib.SlKeysI
import Derived.Lib.Hide
import Derived.Shelf.SlIterI.Nil
import Derived.Shelf.SortM.Plain
import Derived.Shelf.SortM.SortNone
import Derived.Ground.GgzProg
import Derived.Ground.SlgmProg
import Derived.Test.YtdaohldmojpihaaGreatDoorProg
import Derived.Maps.OwnOps
import Derived.Test.YtdaohldmojpihaaGreatDoorZNodeForgets6
namespace Go.Proofs.YtdaohldmojpihaaGreatDoor.G
open Go.RowKit Go.Proofs.YtdaohldmojpihaaGreatDoorW.PrintWords Go.Proofs.YtdaohldmojpihaaGreatDoorW.PrintLast Go.Proofs.YtdaohldmojpihaaGreatDoorW.PrintMore Go.Proofs.YtdaohldmojpihaaGreatDoorPl Go.Proofs.YtdaohldmojpihaaGreatDoorEm Go.Proofs.YtdaohldmojpihaaGreatDoorKr Go.Proofs.YtdaohldmojpihaaGreatDoorRz Go.Proofs.YtdaohldmojpihaaGreatDoor.X Go.Proofs.YtdaohldmojpihaaGreatDoorAy
set_option linter.unusedVariables false
set_option linter.unusedSimpArgs false
theorem Lost_calls (p : Par) (hD : 0 ≤ p.D ∧ p.D ≤ 4096) (w : World) : Calls Tryz.prog 36 #[.agg #[.int .i64 p.N, .int .i64 p.F, .int .i64 p.D, .int .i64 p.Be, .int .i64 p.Rho, .int .i64 p.De, .int .i64 p.Ji, .int .i64 p.Eps, .int .i64 p.Mu, .int .i64 p.Ho, .int .i64 p.Pu, .int .i64 p.Se]] w fun e w' => e = .returned (.int .i64 (p.D + 1)) ∧ Below w.heap.size w w' := by
  have e : IntKind.i64.wrap (p.D + 1) = p.D + 1 := by rw [IntKind.wrap_i64]; omega
  have h1 : -9223372036854775808 ≤ p.D + 1 := by omega
  have h2 : p.D + 1 ≤ 9223372036854775807 := by omega
  have H := Fr.start0 (M := fun _ => False) (A := fun _ => False) (w := w) (p := fun _ => True) (fun _ h => h.elim) (fun _ _ => trivial)
  clear hD
  go_enter Tryz.func36, Tryz.ntmps36
  go_wp2_with (first
    | ((with_reducible refine gate_dst (N := 1) rfl ?_); refine nB H ?_; clear H; intro g1 w1 H)
    | ((with_reducible refine gL rfl ?_); refine xL H ?_)
    | fail)
  go_ret
  exact ⟨rfl, H.below⟩
def encM (h : Hd) : List Value := [.int .i64 h.kind, .int .i64 h.frm, .int .i64 h.lo, .int .i64 h.hi, .int .i64 h.held, .int .i64 h.hops, .bool h.good, .bool h.ref, .int .i64 h.slo, .int .i64 h.shi, .int .i64 h.pulse, .int .i64 h.st, .int .i64 h.sn, .slice h.A h.n h.c]
theorem encM_one (h : Hd) : ∀ v ∈ encM h, v.oneCell' = true := by
  intro v hv
  simp only [encM, List.mem_cons, List.not_mem_nil, or_false] at hv
  rcases hv with rfl | rfl | rfl | rfl | rfl | rfl | rfl | rfl | rfl | rfl | rfl | rfl | rfl | rfl <;> rfl
def flM (l : List Hd) : List Value := l.flatMap encM
theorem flM_snoc (l : List Hd) (x : Hd) : flM (l ++ [x]) = flM l ++ encM x := by unfold flM; rw [List.flatMap_append]; simp
theorem flM_length : ∀ l : List Hd, (flM l).length = l.length * 14
  | [] => rfl
  | x :: l => by
    show (encM x ++ flM l).length = _
    rw [List.length_append, flM_length l, List.length_cons, show (encM x).length = 14 from rfl]; omega
theorem flM_at : ∀ (l : List Hd) (j i : Nat) (q : Hd) (u : Value), l[j]? = some q → (encM q)[i]? = some u → (flM l)[j * 14 + i]? = some u
  | [], j, i, q, u, h, _ => by simp at h
  | x :: l, 0, i, q, u, h, hu => by
    simp at h
    subst h
    rw [show 0 * 14 + i = i by omega]
    show (encM x ++ flM l)[i]? = some u
    rw [List.getElem?_append_left (List.getElem?_eq_some_iff.1 hu).1]
    exact hu
  | x :: l, j + 1, i, q, u, h, hu => by
    have := flM_at l j i q u (by simpa using h) hu
    have e : (encM x).length = 14 := rfl
    rw [show (j + 1) * 14 + i = (encM x).length + (j * 14 + i) by rw [e]; omega]
    show (encM x ++ flM l)[(encM x).length + (j * 14 + i)]? = some u
    rw [List.getElem?_append_right (by omega)]
    simpa using this
def RowM (w : World) (A : Option Addr) (l : List Hd) : Prop := ∀ k (hk : k < l.length), ∃ ad, A = some ad ∧ ∀ j u, (encM l[k])[j]? = some u → w.cell? ((ad.add (k * 14)).add j) = some u
theorem RowM.below {w w' : World} {A : Option Addr} {l : List Hd} (h : RowM w A l) (hb : Below w.heap.size w w') : RowM w' A l := fun k hk => by
  obtain ⟨ad, e, hc⟩ := h k hk
  exact ⟨ad, e, fun j u hu => pw_cell_below hb (hc j u hu)⟩
theorem rowM_own {W : World} {b n c : Nat} {A : Option Addr} {l : List Hd} (h : W.ownsRow b 43 14 (.slice A n c) n (flM l)) : RowM W A l := by
  intro k hk
  obtain ⟨h1, ⟨h2, h3⟩ | ⟨g, cap, cur, h2, h3, h4, h5, h6, h7, h8⟩⟩ := h
  · rw [flM_length] at h1; omega
  · injection h2 with e1
    refine ⟨⟨g, 0, none⟩, e1, fun j u hu => ?_⟩
    rw [add_add]
    rw [show ((⟨g, 0, none⟩ : Addr).add (k * 14 + j)) = ⟨g, k * 14 + j, none⟩ by
      unfold Addr.add
      split
      · rename_i h0; simp at h0; obtain ⟨e1, e2⟩ := h0; rw [show k * 14 + j = 0 by omega]
      · simp, blk_cell h4]
    have e : (flM l)[k * 14 + j]? = some u := flM_at l k j l[k] u (List.getElem?_eq_getElem hk) hu
    rw [← h8, List.getElem?_take] at e
    split at e
    · simpa using e
    · cases e
def usN (D : Int) (m : Hd) : Bool := (m.kind == 2) && m.good && decide (0 ≤ m.hops) && decide (m.hops < D) && !decide (m.hi < m.lo)
def cmpN (a b : Int) : Int := if a < b then -1 else if b < a then 1 else 0
def orN (l : List Int) : Int := (l.find? (fun x => x != 0)).getD 0
def betN (a b : Hd) : Int := orN [cmpN a.hops b.hops, cmpN a.held b.held, cmpN a.frm b.frm]
def chStep (D : Int) (s : Option Hd) (m : Hd) : Option Hd := if usN D m = true then (match s with | none => some m | some b => if betN m b < 0 then some m else some b) else s
def chooseP (D : Int) (l : List Hd) : Option Hd := l.foldl (chStep D) none
def z0 : Hd := ⟨0, 0, 0, 0, 0, 0, false, false, 0, 0, 0, 0, 0, none, 0, 0, 0⟩
set_option maxHeartbeats 1000000 in
theorem NaN_calls (a : Int) (w : World) : Calls Tryz.prog 181 #[.int .i64 a] w fun e w' => e = .returned (.bool false) ∧ w' = w := by
  have e1 : (a != a) = false := bne_self_eq_false a
  go_enter Tryz.func181, Tryz.ntmps181
  go_wp2
  go_ret
  first | exact ⟨rfl, rfl⟩ | exact ⟨by rw [e1], rfl⟩ | (refine ⟨?_, rfl⟩; simp)
set_option maxHeartbeats 1000000 in
theorem Cmp_calls (a b : Int) (w : World) : Calls Tryz.prog 167 #[.int .i64 a, .int .i64 b] w fun e w' => e = .returned (.int .i64 (cmpN a b)) ∧ w' = w := by
  by_cases h : a < b
  · have d1 : decide (a < b) = true := decide_eq_true h
    have HE := Lib.hid (show cmpN a b = -1 by unfold cmpN; rw [if_pos h])
    clear h
    go_enter Tryz.func167, Tryz.ntmps167
    go_wp2_with (go_at_call 181; refine (NaN_calls _ _).mono ?_; rintro e w' ⟨rfl, rfl⟩)
    go_ret
    exact ⟨(by rw [HE.out]; try rfl), rfl⟩
  · have d1 : decide (a < b) = false := decide_eq_false h
    by_cases h2 : b < a
    · have d2 : decide (b < a) = true := decide_eq_true h2
      have HE := Lib.hid (show cmpN a b = 1 by unfold cmpN; rw [if_neg h, if_pos h2])
      clear h h2
      go_enter Tryz.func167, Tryz.ntmps167
      go_wp2_with (go_at_call 181; refine (NaN_calls _ _).mono ?_; rintro e w' ⟨rfl, rfl⟩)
      go_ret
      exact ⟨(by rw [HE.out]; try rfl), rfl⟩
    · have d2 : decide (b < a) = false := decide_eq_false h2
      have HE := Lib.hid (show cmpN a b = 0 by unfold cmpN; rw [if_neg h, if_neg h2])
      clear h h2
      go_enter Tryz.func167, Tryz.ntmps167
      go_wp2_with (go_at_call 181; refine (NaN_calls _ _).mono ?_; rintro e w' ⟨rfl, rfl⟩)
      go_ret
      exact ⟨(by rw [HE.out]; try rfl), rfl⟩
set_option maxHeartbeats 1000000 in
theorem Or_calls (A : Option Addr) (c : Nat) (l : List Int) (w : World) (hr : Kd.C (Kd.int .i64) w A l.length l) :
    Calls Tryz.prog 166 #[.slice A l.length c] w fun e w' => e = .returned (.int .i64 (orN l)) ∧ w' = w := by
  have R := Lib.hid hr
  have hm : l.length ≤ 9223372036854775807 := hr.2.1
  obtain ⟨n, hn⟩ : ∃ n, l.length = n := ⟨_, rfl⟩
  have HN := Lib.hid hn
  rw [hn] at hm ⊢
  clear hr hn
  go_enter Tryz.func166, Tryz.ntmps166
  go_wp2
  go_loop [8] (fun v8 => ∃ k : Nat, k ≤ n ∧ v8 = .int .i64 k ∧ Hid (orN l = orN (l.drop k))) (fun v8 => n - (intOf v8).toNat)
  case atStart => exact ⟨0, by omega, rfl, Lib.hid rfl⟩
  case round =>
    obtain ⟨k, hk, rfl, HO⟩ := hrel
    by_cases hlt : k < n
    · have hkl : k < l.length := by rw [HN.out]; exact hlt
      have hk1 : (k : Int) < (n : Int) := by omega
      have hs1 : -9223372036854775808 ≤ (k : Int) + 1 := by omega
      have hs2 : (k : Int) + 1 ≤ 9223372036854775807 := by omega
      obtain ⟨ad, e, hc⟩ := Kd.at_int R.out (k : Int) (by omega) (by omega)
      cases e
      rw [getD_cell hkl, Int.toNat_natCast] at hc
      have HD := Lib.hid (List.drop_eq_getElem_cons hkl)
      generalize l[k] = x at hc HD
      by_cases hx : x = 0
      · have d : (x != 0) = false := by rw [hx]; rfl
        have HT := Lib.hid (show orN l = orN (l.drop (k + 1)) by rw [HO.out, HD.out]; unfold orN; rw [show List.find? (fun y : Int => y != 0) (x :: List.drop (k + 1) l) = List.find? (fun y : Int => y != 0) (List.drop (k + 1) l) from by simp [List.find?_cons, d]])
        clear hx
        go_wp2
        go_round
        case rel => exact ⟨k + 1, by omega, by simp, HT⟩
        case measure => simp [intOf]; omega
      · have d : (x != 0) = true := by simp [hx]
        have HT := Lib.hid (show orN l = x by rw [HO.out, HD.out]; unfold orN; rw [show List.find? (fun y : Int => y != 0) (x :: List.drop (k + 1) l) = some x from by simp [List.find?_cons, d]]; rfl)
        clear hx
        go_wp2
        go_ret
        exact ⟨(by rw [HT.out]; try rfl), rfl⟩
    · obtain rfl : k = n := by omega
      have HT := Lib.hid (show orN l = 0 by rw [HO.out, List.drop_eq_nil_of_le (by rw [HN.out]; exact Nat.le_refl _)]; rfl)
      go_wp2
      go_ret
      exact ⟨(by rw [HT.out]; try rfl), rfl⟩
theorem Or3 {x t : Nat} {a b c : Int} {w : World} (h : w.heap[x]? = some (.cells #[.int .i64 a, .int .i64 b, .int .i64 c] t (0, 0))) : Calls Tryz.prog 166 #[.slice (some ⟨x, 0, none⟩) 3 3] w fun e w' => e = .returned (.int .i64 (orN [a, b, c])) ∧ Below w.heap.size w w' :=
  (Or_calls (some ⟨x, 0, none⟩) 3 [a, b, c] w (Go.Proofs.YtdaohldmojpihaaGreatDoorKr.ints_of_block (l := [a, b, c]) h (by show _ ≤ _; simp))).mono fun e w' ⟨h1, h2⟩ => ⟨h1, h2 ▸ Below.refl _ _⟩
set_option maxRecDepth 100000 in
set_option maxHeartbeats 4000000 in
theorem Better_calls (a b : Hd) (w : World) : Calls Tryz.prog 131 #[.agg (encM a).toArray, .agg (encM b).toArray] w fun e w' => e = .returned (.int .i64 (betN a b)) ∧ Below w.heap.size w w' := by
  obtain ⟨kind, frm, lo, hi, held, hops, good, ref, slo, shi, pulse, st, sn, A, n, c, age⟩ := a
  obtain ⟨kind2, frm2, lo2, hi2, held2, hops2, good2, ref2, slo2, shi2, pulse2, st2, sn2, A2, n2, c2, age2⟩ := b
  simp only [encM, betN]
  have H := Fr.start0 (M := fun _ => False) (A := fun _ => False) (w := w) (p := fun _ => True) (fun _ h => h.elim) (fun _ _ => trivial)
  go_enter Tryz.func131, Tryz.ntmps131
  go_upto_region 1 with (first
    | ((with_reducible refine gate_dst (N := 2) rfl ?_); refine nB H ?_; clear H; intro g2 w2 H)
    | ((with_reducible refine gate_dst (N := 3) rfl ?_); refine nB H ?_; clear H; intro g3 w3 H)
    | fail)
  refine ko_region0 H (by kernel_rfl) (by as_aux_lemma => kernel_rfl) (fun HR => ?_)
  repeat ((first
    | ((with_reducible refine kg_call (f := 167) rfl ?_); refine yC 167 Tryz.func167 (fun W hC hd => ret_below (Cmp_calls _ _ _)) ?_)
    | ((with_reducible refine kg_call (f := 166) rfl ?_); refine yC 166 Tryz.func166 (fun W hC hd => Or3 (depH.hd hd (by kernel_rfl))) ?_)
    | ((with_reducible refine kg_dst (N := 20) rfl ?_); refine yR ?_; intro x20)
    | ((with_reducible refine kg_load rfl ?_); refine yL HR ?_)
    | (refine yP ?_)
    | (refine yO ?_)); (try simp only [Act.put, lsA, lsZ, lsS, Nat.reduceAdd]))
  refine ko_end ?_
  intro w1 H1
  clear HR H
  have H := H1
  clear H1
  (try simp only [List.map_cons, List.map_nil, cv, List.cons_append, List.nil_append] at H)
  go_wp2
  go_ret
  exact ⟨rfl, H.below⟩
theorem us_cases (D : Int) (m : Hd) (r : Bool) (h : usN D m = r) :
    ((m.kind == 2) = false ∧ r = false) ∨ ((m.kind == 2) = true ∧ m.good = false ∧ r = false) ∨ ((m.kind == 2) = true ∧ m.good = true ∧ decide (0 ≤ m.hops) = false ∧ r = false) ∨ ((m.kind == 2) = true ∧ m.good = true ∧ decide (0 ≤ m.hops) = true ∧ decide (m.hops < D) = false ∧ r = false) ∨
    ((m.kind == 2) = true ∧ m.good = true ∧ decide (0 ≤ m.hops) = true ∧ decide (m.hops < D) = true ∧ r = !decide (m.hi < m.lo)) := by
  unfold usN at h
  subst h
  generalize (m.kind == 2) = a
  generalize m.good = b
  generalize decide (0 ≤ m.hops) = c
  generalize decide (m.hops < D) = d
  cases a <;> cases b <;> cases c <;> cases d <;> simp
set_option maxRecDepth 100000 in
set_option maxHeartbeats 4000000 in
theorem Usable_calls (p : Par) (m : Hd) (w : World) : Calls Tryz.prog 130 #[.agg #[.int .i64 p.N, .int .i64 p.F, .int .i64 p.D, .int .i64 p.Be, .int .i64 p.Rho, .int .i64 p.De, .int .i64 p.Ji, .int .i64 p.Eps, .int .i64 p.Mu, .int .i64 p.Ho, .int .i64 p.Pu, .int .i64 p.Se], .agg (encM m).toArray] w fun e w' => e = .returned (.bool (usN p.D m)) ∧ Below w.heap.size w w' := by
  obtain ⟨r, hr⟩ : ∃ r, usN p.D m = r := ⟨_, rfl⟩
  have hcs := us_cases p.D m r hr
  rw [hr]
  clear hr
  obtain ⟨kind, frm, lo, hi, held, hops, good, ref, slo, shi, pulse, st, sn, A, n, c, age⟩ := m
  obtain ⟨bn, bf, D, be, rho, de, ji, eps, mu, ho, pu, se⟩ := p
  dsimp only at hcs
  simp only [encM]
  have H := Fr.start0 (M := fun _ => False) (A := fun _ => False) (w := w) (p := fun _ => True) (fun _ h => h.elim) (fun _ _ => trivial)
  rcases hcs with ⟨d1, rfl⟩ | ⟨d1, rfl, rfl⟩ | ⟨d1, rfl, d3, rfl⟩ | ⟨d1, rfl, d3, d4, rfl⟩ | ⟨d1, rfl, d3, d4, rfl⟩
  all_goals
    go_enter Tryz.func130, Tryz.ntmps130
    go_wp2_with (first
      | ((with_reducible refine gate_dst (N := 2) rfl ?_); refine nB H ?_; clear H; intro g2 w2 H)
      | ((with_reducible refine gate_dst (N := 3) rfl ?_); refine nB H ?_; clear H; intro g3 w3 H)
      | ((with_reducible refine gL rfl ?_); (try (refine gate_guard (by rfl) ?_; dsimp only)); refine xL H ?_)
      | (go_at_call 43; (with_reducible refine (Empty_calls _ _ _).mono ?_); rintro e w' ⟨rfl, hb⟩; have H1 := H.call hb; clear hb; replace H := H1; clear H1)
      | fail)
    go_ret
    exact ⟨rfl, H.below⟩
end Go.Proofs.YtdaohldmojpihaaGreatDoor.G

namespace Go.Proofs.YtdaohldmojpihaaGreatDoor.G
open Go.RowKit Go.Proofs.YtdaohldmojpihaaGreatDoorW.PrintWords Go.Proofs.YtdaohldmojpihaaGreatDoorW.PrintLast Go.Proofs.YtdaohldmojpihaaGreatDoorW.PrintMore Go.Proofs.YtdaohldmojpihaaGreatDoorPl Go.Proofs.YtdaohldmojpihaaGreatDoorEm Go.Proofs.YtdaohldmojpihaaGreatDoorKr Go.Proofs.YtdaohldmojpihaaGreatDoorRz Go.Proofs.YtdaohldmojpihaaGreatDoor.X Go.Proofs.YtdaohldmojpihaaGreatDoorAy
set_option linter.unusedVariables false
set_option linter.unusedSimpArgs false
theorem ch_snoc (D : Int) (l : List Hd) (m : Hd) : chooseP D (l ++ [m]) = chStep D (chooseP D l) m := by unfold chooseP; rw [List.foldl_append]; rfl
def chSel (u : Bool) (bt : Int) (s : Option Hd) (m : Hd) : Option Hd := if u = true then (if (s.isSome && !decide (bt < 0)) = true then s else some m) else s
theorem chStep_is {D : Int} {s : Option Hd} {m : Hd} {u : Bool} {bt : Int} (hu : usN D m = u) (hb : betN m (s.getD z0) = bt) : chStep D s m = chSel u bt s m := by
  subst hu hb
  unfold chStep chSel
  cases usN D m
  · rfl
  · cases s with
    | none => rfl
    | some b =>
      show (if betN m b < 0 then some m else some b) = _
      by_cases h : betN m b < 0
      · simp [h]
      · simp [h]
set_option maxRecDepth 100000 in
set_option maxHeartbeats 8000000 in
theorem Choose_calls (p : Par) (A : Option Addr) (c : Nat) (l : List Hd) (w : World) (hr : Tr (fun _ => False) w (fun W => RowM W A l)) (hl : l.length ≤ 4096) :
    Calls Tryz.prog 75 #[.agg #[.int .i64 p.N, .int .i64 p.F, .int .i64 p.D, .int .i64 p.Be, .int .i64 p.Rho, .int .i64 p.De, .int .i64 p.Ji, .int .i64 p.Eps, .int .i64 p.Mu, .int .i64 p.Ho, .int .i64 p.Pu, .int .i64 p.Se], .slice A l.length c] w fun e w' => e = .returned (.tuple #[.agg (encM ((chooseP p.D l).getD z0)).toArray, .bool (chooseP p.D l).isSome]) ∧ Below w.heap.size w w' := by
  have H := Fr.start0 (M := fun _ => False) (A := fun _ => False) (w := w) (p := fun W => RowM W A l) (fun _ h => h.elim) hr
  obtain ⟨n, hn⟩ : ∃ n, l.length = n := ⟨_, rfl⟩
  have HN := Lib.hid hn
  rw [hn] at hl ⊢
  clear hr hn
  go_enter Tryz.func75, Tryz.ntmps75
  go_wp2_with (first
    | ((with_reducible refine gate_dst (N := 2) rfl ?_); refine nB H ?_; clear H; intro g2 w2 H)
    | ((with_reducible refine gate_dst (N := 4) rfl ?_); refine nA #[.int .i64 0, .int .i64 0, .int .i64 0, .int .i64 0, .int .i64 0, .int .i64 0, .bool false, .bool false, .int .i64 0, .int .i64 0, .int .i64 0, .int .i64 0, .int .i64 0, .slice none 0 0] 43 H ?_; clear H; intro g4 w4 H)
    | ((with_reducible refine gate_dst (N := 6) rfl ?_); refine nA #[.int .i64 0, .int .i64 0, .int .i64 0, .int .i64 0, .int .i64 0, .int .i64 0, .bool false, .bool false, .int .i64 0, .int .i64 0, .int .i64 0, .int .i64 0, .int .i64 0, .slice none 0 0] 43 H ?_; clear H; intro g6 w6 H)
    | ((with_reducible refine gS rfl ?_); refine xS H ?_; clear H; intro w_ H)
    | fail)
  go_loopw [7, 13] (fun v7 v13 wr => ∃ (k : Nat) (s : Option Hd), k ≤ n ∧ v13 = .int .i64 k ∧ v7 = .bool s.isSome ∧ Hid (chooseP p.D (l.take k) = s) ∧ Fr (fun _ => False) (fun _ => False) w wr [(g6, .cells (encM (s.getD z0)).toArray 43 (0, 0)), (g4, .cells #[.int .i64 0, .int .i64 0, .int .i64 0, .int .i64 0, .int .i64 0, .int .i64 0, .bool false, .bool false, .int .i64 0, .int .i64 0, .int .i64 0, .int .i64 0, .int .i64 0, .slice none 0 0] 43 (0, 0)), (g2, .cells #[.int .i64 p.N, .int .i64 p.F, .int .i64 p.D, .int .i64 p.Be, .int .i64 p.Rho, .int .i64 p.De, .int .i64 p.Ji, .int .i64 p.Eps, .int .i64 p.Mu, .int .i64 p.Ho, .int .i64 p.Pu, .int .i64 p.Se] 23 (0, 0))] (fun W => RowM W A l)) (fun _ v13 _ => n - (intOf v13).toNat)
  case atStart => exact ⟨0, none, by omega, rfl, rfl, Lib.hid rfl, H⟩
  case round =>
    clear H
    obtain ⟨k, s, hk, rfl, rfl, HF, H⟩ := hrel
    by_cases hlt : k < n
    · have hkl : k < l.length := by rw [HN.out]; exact hlt
      have hk1 : (k : Int) < (n : Int) := by omega
      have hs1 : -9223372036854775808 ≤ (k : Int) + 1 := by omega
      have hs2 : (k : Int) + 1 ≤ 9223372036854775807 := by omega
      obtain ⟨ad, e, hx⟩ := H.now k hkl
      cases e
      obtain ⟨x, hxe⟩ : ∃ x, l[k] = x := ⟨_, rfl⟩
      rw [hxe] at hx
      have HT : Hid (chooseP p.D (l.take (k + 1)) = chStep p.D s x) := Lib.hid (by rw [List.take_succ_eq_append_getElem hkl, hxe, ch_snoc, HF.out])
      obtain ⟨u, hu⟩ : ∃ u, usN p.D x = u := ⟨_, rfl⟩
      have KU : Hid (∀ W, Calls Tryz.prog 130 #[.agg #[.int .i64 p.N, .int .i64 p.F, .int .i64 p.D, .int .i64 p.Be, .int .i64 p.Rho, .int .i64 p.De, .int .i64 p.Ji, .int .i64 p.Eps, .int .i64 p.Mu, .int .i64 p.Ho, .int .i64 p.Pu, .int .i64 p.Se], .agg (encM x).toArray] W fun e w' => e = .returned (.bool u) ∧ Below W.heap.size W w') := Lib.hid (fun W => by rw [← hu]; exact Usable_calls p x W)
      obtain ⟨bt, hbt⟩ : ∃ r, betN x (s.getD z0) = r := ⟨_, rfl⟩
      have KB : Hid (∀ W, Calls Tryz.prog 131 #[.agg (encM x).toArray, .agg (encM (s.getD z0)).toArray] W fun e w' => e = .returned (.int .i64 bt) ∧ Below W.heap.size W w') := Lib.hid (fun W => by rw [← hbt]; exact Better_calls x _ W)
      have HST : Hid (chStep p.D s x = chSel u bt s x) := Lib.hid (chStep_is hu hbt)
      clear hu hbt hxe
      obtain ⟨kind, frm, lo, hi, held, hops, good, ref, slo, shi, pulse, st, sn, Ax, nx, cx, age⟩ := x
      have HC := Lib.hid hx
      clear hx
      simp only [encM] at HC KU KB
      have hsd : (u = false) ∨ (u = true ∧ s = none) ∨ (u = true ∧ (∃ b, s = some b) ∧ decide (bt < 0) = false) ∨ (u = true ∧ (∃ b, s = some b) ∧ decide (bt < 0) = true) := by
        cases u
        · exact .inl rfl
        · cases s with
          | none => exact .inr (.inl ⟨rfl, rfl⟩)
          | some b => cases hd : decide (bt < 0) with
            | false => exact .inr (.inr (.inl ⟨rfl, ⟨b, rfl⟩, rfl⟩))
            | true => exact .inr (.inr (.inr ⟨rfl, ⟨b, rfl⟩, rfl⟩))
      rcases hsd with rfl | ⟨rfl, rfl⟩ | ⟨rfl, ⟨b, rfl⟩, d1⟩ | ⟨rfl, ⟨b, rfl⟩, d1⟩
      · have HR := Lib.hid (show chooseP p.D (l.take (k + 1)) = s from HT.out.trans (HST.out.trans (if_neg (by decide))))
        clear HT HST HF
        go_wp2_with (first
          | ((with_reducible refine gate_dst (N := 16) rfl ?_); refine load_cells rfl rfl (ad := ad.add (k * 14)) (cs := [.int .i64 kind, .int .i64 frm, .int .i64 lo, .int .i64 hi, .int .i64 held, .int .i64 hops, .bool good, .bool ref, .int .i64 slo, .int .i64 shi, .int .i64 pulse, .int .i64 st, .int .i64 sn, .slice Ax nx cx]) ?hx Tryz.underlying43 rfl (by kernel_rfl) HC.out ?_; (case hx => first | rfl | (go_simp; done) | (go_simp; rfl)))
          | ((with_reducible refine gate_dst (N := 9) rfl ?_); refine nA #[.int .i64 0, .int .i64 0, .int .i64 0, .int .i64 0, .int .i64 0, .int .i64 0, .bool false, .bool false, .int .i64 0, .int .i64 0, .int .i64 0, .int .i64 0, .int .i64 0, .slice none 0 0] 43 H ?_; clear H; intro g9 w9 H)
          | ((with_reducible refine gS rfl ?_); refine xS H ?_; clear H; intro w_ H)
          | ((with_reducible refine gL rfl ?_); (try (refine gate_guard (by rfl) ?_; dsimp only)); refine xL H ?_)
          | (go_at_call 130; (with_reducible refine (KU.out _).mono ?_); rintro e w' ⟨rfl, hb⟩; have H1 := H.call hb; clear hb; replace H := H1; clear H1)
          | (go_at_call 131; (with_reducible refine (KB.out _).mono ?_); rintro e w' ⟨rfl, hb⟩; have H1 := H.call hb; clear hb; replace H := H1; clear H1)
          | fail)
        go_roundw
        case rel => exact ⟨k + 1, s, by omega, by simp, rfl, HR, H.drop⟩
        case measure => simp [intOf]; omega
      · have HR := Lib.hid (show chooseP p.D (l.take (k + 1)) = _ from HT.out.trans (HST.out.trans (show chSel true bt none _ = _ from rfl)))
        clear HT HST HF
        simp only [Option.getD_none, Option.isSome_none, encM, z0] at H KB ⊢
        go_wp2_with (first
          | ((with_reducible refine gate_dst (N := 16) rfl ?_); refine load_cells rfl rfl (ad := ad.add (k * 14)) (cs := [.int .i64 kind, .int .i64 frm, .int .i64 lo, .int .i64 hi, .int .i64 held, .int .i64 hops, .bool good, .bool ref, .int .i64 slo, .int .i64 shi, .int .i64 pulse, .int .i64 st, .int .i64 sn, .slice Ax nx cx]) ?hx Tryz.underlying43 rfl (by kernel_rfl) HC.out ?_; (case hx => first | rfl | (go_simp; done) | (go_simp; rfl)))
          | ((with_reducible refine gate_dst (N := 9) rfl ?_); refine nA #[.int .i64 0, .int .i64 0, .int .i64 0, .int .i64 0, .int .i64 0, .int .i64 0, .bool false, .bool false, .int .i64 0, .int .i64 0, .int .i64 0, .int .i64 0, .int .i64 0, .slice none 0 0] 43 H ?_; clear H; intro g9 w9 H)
          | ((with_reducible refine gS rfl ?_); refine xS H ?_; clear H; intro w_ H)
          | ((with_reducible refine gL rfl ?_); (try (refine gate_guard (by rfl) ?_; dsimp only)); refine xL H ?_)
          | (go_at_call 130; (with_reducible refine (KU.out _).mono ?_); rintro e w' ⟨rfl, hb⟩; have H1 := H.call hb; clear hb; replace H := H1; clear H1)
          | (go_at_call 131; (with_reducible refine (KB.out _).mono ?_); rintro e w' ⟨rfl, hb⟩; have H1 := H.call hb; clear hb; replace H := H1; clear H1)
          | fail)
        go_roundw
        case rel => exact ⟨k + 1, some _, by omega, by simp, rfl, HR, H.drop⟩
        case measure => simp [intOf]; omega
      · have HR := Lib.hid (show chooseP p.D (l.take (k + 1)) = some b from HT.out.trans (HST.out.trans (by unfold chSel; rw [d1]; rfl)))
        clear HT HST HF
        obtain ⟨kind2, frm2, lo2, hi2, held2, hops2, good2, ref2, slo2, shi2, pulse2, st2, sn2, A2, n2, c2, age2⟩ := b
        simp only [Option.getD_some, Option.isSome_some, encM] at H KB ⊢
        go_wp2_with (first
          | ((with_reducible refine gate_dst (N := 16) rfl ?_); refine load_cells rfl rfl (ad := ad.add (k * 14)) (cs := [.int .i64 kind, .int .i64 frm, .int .i64 lo, .int .i64 hi, .int .i64 held, .int .i64 hops, .bool good, .bool ref, .int .i64 slo, .int .i64 shi, .int .i64 pulse, .int .i64 st, .int .i64 sn, .slice Ax nx cx]) ?hx Tryz.underlying43 rfl (by kernel_rfl) HC.out ?_; (case hx => first | rfl | (go_simp; done) | (go_simp; rfl)))
          | ((with_reducible refine gate_dst (N := 9) rfl ?_); refine nA #[.int .i64 0, .int .i64 0, .int .i64 0, .int .i64 0, .int .i64 0, .int .i64 0, .bool false, .bool false, .int .i64 0, .int .i64 0, .int .i64 0, .int .i64 0, .int .i64 0, .slice none 0 0] 43 H ?_; clear H; intro g9 w9 H)
          | ((with_reducible refine gS rfl ?_); refine xS H ?_; clear H; intro w_ H)
          | ((with_reducible refine gL rfl ?_); (try (refine gate_guard (by rfl) ?_; dsimp only)); refine xL H ?_)
          | (go_at_call 130; (with_reducible refine (KU.out _).mono ?_); rintro e w' ⟨rfl, hb⟩; have H1 := H.call hb; clear hb; replace H := H1; clear H1)
          | (go_at_call 131; (with_reducible refine (KB.out _).mono ?_); rintro e w' ⟨rfl, hb⟩; have H1 := H.call hb; clear hb; replace H := H1; clear H1)
          | fail)
        go_roundw
        case rel => exact ⟨k + 1, some _, by omega, by simp, rfl, HR, H.drop⟩
        case measure => simp [intOf]; omega
      · have HR := Lib.hid (show chooseP p.D (l.take (k + 1)) = some _ from HT.out.trans (HST.out.trans (by unfold chSel; rw [d1]; rfl)))
        clear HT HST HF
        obtain ⟨kind2, frm2, lo2, hi2, held2, hops2, good2, ref2, slo2, shi2, pulse2, st2, sn2, A2, n2, c2, age2⟩ := b
        simp only [Option.getD_some, Option.isSome_some, encM] at H KB ⊢
        go_wp2_with (first
          | ((with_reducible refine gate_dst (N := 16) rfl ?_); refine load_cells rfl rfl (ad := ad.add (k * 14)) (cs := [.int .i64 kind, .int .i64 frm, .int .i64 lo, .int .i64 hi, .int .i64 held, .int .i64 hops, .bool good, .bool ref, .int .i64 slo, .int .i64 shi, .int .i64 pulse, .int .i64 st, .int .i64 sn, .slice Ax nx cx]) ?hx Tryz.underlying43 rfl (by kernel_rfl) HC.out ?_; (case hx => first | rfl | (go_simp; done) | (go_simp; rfl)))
          | ((with_reducible refine gate_dst (N := 9) rfl ?_); refine nA #[.int .i64 0, .int .i64 0, .int .i64 0, .int .i64 0, .int .i64 0, .int .i64 0, .bool false, .bool false, .int .i64 0, .int .i64 0, .int .i64 0, .int .i64 0, .int .i64 0, .slice none 0 0] 43 H ?_; clear H; intro g9 w9 H)
          | ((with_reducible refine gS rfl ?_); refine xS H ?_; clear H; intro w_ H)
          | ((with_reducible refine gL rfl ?_); (try (refine gate_guard (by rfl) ?_; dsimp only)); refine xL H ?_)
          | (go_at_call 130; (with_reducible refine (KU.out _).mono ?_); rintro e w' ⟨rfl, hb⟩; have H1 := H.call hb; clear hb; replace H := H1; clear H1)
          | (go_at_call 131; (with_reducible refine (KB.out _).mono ?_); rintro e w' ⟨rfl, hb⟩; have H1 := H.call hb; clear hb; replace H := H1; clear H1)
          | fail)
        go_roundw
        case rel => exact ⟨k + 1, some _, by omega, by simp, rfl, HR, H.drop⟩
        case measure => simp [intOf]; omega
    · obtain rfl : k = n := by omega
      have HFA : Hid (chooseP p.D l = s) := Lib.hid (by rw [← HF.out, List.take_of_length_le (by rw [HN.out]; exact Nat.le_refl _)])
      obtain ⟨b, hb⟩ : ∃ b, s.getD z0 = b := ⟨_, rfl⟩
      rw [hb] at H
      have HB := Lib.hid hb
      clear hb
      obtain ⟨kind2, frm2, lo2, hi2, held2, hops2, good2, ref2, slo2, shi2, pulse2, st2, sn2, A2, n2, c2, age2⟩ := b
      simp only [encM] at H
      go_wp2_with (first
        | ((with_reducible refine gS rfl ?_); refine xS H ?_; clear H; intro w_ H)
        | ((with_reducible refine gL rfl ?_); refine xL H ?_)
        | fail)
      refine bodyPost_ret (results_ct rfl _ _ g4 43 _ (0, 0) _ rfl (H.of (by repeat (first | exact At.head | apply At.tail))) Tryz.underlying43 rfl (by kernel_rfl)) rfl ?_
      exact ⟨(by rw [HFA.out, HB.out]; try rfl), H.below⟩
end Go.Proofs.YtdaohldmojpihaaGreatDoor.G

namespace Go.Proofs.YtdaohldmojpihaaGreatDoor.G
open Go.RowKit Go.Proofs.YtdaohldmojpihaaGreatDoorW.PrintWords Go.Proofs.YtdaohldmojpihaaGreatDoorW.PrintLast Go.Proofs.YtdaohldmojpihaaGreatDoorW.PrintMore Go.Proofs.YtdaohldmojpihaaGreatDoorPl Go.Proofs.YtdaohldmojpihaaGreatDoorEm Go.Proofs.YtdaohldmojpihaaGreatDoorKr Go.Proofs.YtdaohldmojpihaaGreatDoorRz Go.Proofs.YtdaohldmojpihaaGreatDoor.X Go.Proofs.YtdaohldmojpihaaGreatDoorAy
set_option linter.unusedVariables false
set_option linter.unusedSimpArgs false
def lessP (a b c d : Int) : Bool := decide (a < c) || ((a == c) && decide (b < d))
set_option maxHeartbeats 2000000 in
set_option maxRecDepth 100000 in
theorem Less_calls (a b c d : Int) (w : World) : Calls Tryz.prog 168 #[.agg #[.int .i64 a, .int .i64 b], .agg #[.int .i64 c, .int .i64 d]] w fun e w' => e = .returned (.bool (lessP a b c d)) ∧ Below w.heap.size w w' := by
  obtain ⟨r, hr⟩ : ∃ r, lessP a b c d = r := ⟨_, rfl⟩
  have hcs : (decide (a < c) = true ∧ r = true) ∨ (decide (a < c) = false ∧ (a == c) = false ∧ r = false) ∨ (decide (a < c) = false ∧ (a == c) = true ∧ r = decide (b < d)) := by
    subst hr
    unfold lessP
    cases decide (a < c) <;> cases (a == c) <;> simp
  rw [hr]
  clear hr
  have H := Fr.start0 (M := fun _ => False) (A := fun _ => False) (w := w) (p := fun _ => True) (fun _ h => h.elim) (fun _ _ => trivial)
  rcases hcs with ⟨d1, rfl⟩ | ⟨d1, d2, rfl⟩ | ⟨d1, d2, rfl⟩
  all_goals
    go_enter Tryz.func168, Tryz.ntmps168
    go_wp2_with (first
      | ((with_reducible refine gate_dst (N := 2) rfl ?_); refine nB H ?_; clear H; intro g2 w2 H)
      | ((with_reducible refine gate_dst (N := 3) rfl ?_); refine nB H ?_; clear H; intro g3 w3 H)
      | ((with_reducible refine gL rfl ?_); (try (refine gate_guard (by rfl) ?_; dsimp only)); refine xL H ?_)
      | fail)
    go_ret
    exact ⟨rfl, H.below⟩
def laterP (a b c d e f : Int) : Int × Int :=
  let x := if lessP a b c d = true then (c, d) else (a, b)
  if lessP x.1 x.2 e f = true then (e, f) else x
set_option maxHeartbeats 4000000 in
set_option maxRecDepth 100000 in
theorem Later3 {x t : Nat} {a b c d e f : Int} {w : World} (h : w.heap[x]? = some (.cells #[.int .i64 a, .int .i64 b, .int .i64 c, .int .i64 d, .int .i64 e, .int .i64 f] t (0, 0))) :
    Calls Tryz.prog 133 #[.slice (some ⟨x, 0, none⟩) 3 3] w fun e' w' => e' = .returned (.agg #[.int .i64 (laterP a b c d e f).1, .int .i64 (laterP a b c d e f).2]) ∧ Below w.heap.size w w' := by
  have H := Fr.start1 (M := fun k => k = x) (A := fun _ => False) (p := fun _ => True) (fun _ h => h.elim) h rfl (fun _ _ => trivial)
  have HX := Lib.hid h
  obtain ⟨l1, hl1⟩ : ∃ r, lessP a b c d = r := ⟨_, rfl⟩
  obtain ⟨⟨y1, y2⟩, hy⟩ : ∃ y : Int × Int, (if l1 = true then (c, d) else (a, b)) = y := ⟨_, rfl⟩
  obtain ⟨l2, hl2⟩ : ∃ r, lessP y1 y2 e f = r := ⟨_, rfl⟩
  have HLP : Hid (laterP a b c d e f = if l2 = true then (e, f) else (y1, y2)) := Lib.hid (by unfold laterP; rw [hl1, hy]; dsimp only; rw [hl2])
  have K1 : Hid (∀ W, Calls Tryz.prog 168 #[.agg #[.int .i64 a, .int .i64 b], .agg #[.int .i64 c, .int .i64 d]] W fun e w' => e = .returned (.bool l1) ∧ Below W.heap.size W w') := Lib.hid (fun W => hl1 ▸ Less_calls a b c d W)
  have K2 : Hid (∀ W, Calls Tryz.prog 168 #[.agg #[.int .i64 y1, .int .i64 y2], .agg #[.int .i64 e, .int .i64 f]] W fun e w' => e = .returned (.bool l2) ∧ Below W.heap.size W w') := Lib.hid (fun W => hl2 ▸ Less_calls y1 y2 e f W)
  clear h hl1 hl2
  go_enter Tryz.func133, Tryz.ntmps133
  go_wp2_with (first
    | ((with_reducible refine gate_dst (N := 2) rfl ?_); refine nA #[.int .i64 0, .int .i64 0] 28 H ?_; clear H; intro g2 w2 H)
    | ((with_reducible refine gate_dst (N := 3) rfl ?_); refine nA #[.int .i64 0, .int .i64 0] 28 H ?_; clear H; intro g3 w3 H)
    | ((with_reducible refine gS rfl ?_); refine xS H ?_; clear H; intro w_ H)
    | ((with_reducible refine gL rfl ?_); refine xL H ?_)
    | fail)
  refine wp_loop_rounds 3 ?_
  rw [rounds_succ]
  cases l1
  all_goals
    obtain ⟨rfl, rfl⟩ := Prod.mk.inj hy
    go_wp2_with (first
      | ((with_reducible refine gate_dst (N := 5) rfl ?_); refine nA #[.int .i64 0, .int .i64 0] 28 H ?_; clear H; intro g5 w5 H)
      | ((with_reducible refine gS rfl ?_); refine xS H ?_; clear H; intro w_ H)
      | ((with_reducible refine gL rfl ?_); refine xL H ?_)
      | (go_at_call 168; (with_reducible refine (K1.out _).mono ?_); rintro e w' ⟨rfl, hb⟩; have H1 := H.call hb; clear hb; replace H := H1; clear H1)
      | fail)
    rw [rounds_succ]
    cases l2
    all_goals
      go_wp2_with (first
        | ((with_reducible refine gate_dst (N := 5) rfl ?_); refine nA #[.int .i64 0, .int .i64 0] 28 H ?_; clear H; intro g5 w5 H)
        | ((with_reducible refine gS rfl ?_); refine xS H ?_; clear H; intro w_ H)
        | ((with_reducible refine gL rfl ?_); refine xL H ?_)
        | (go_at_call 168; (with_reducible refine (K2.out _).mono ?_); rintro e w' ⟨rfl, hb⟩; have H1 := H.call hb; clear hb; replace H := H1; clear H1)
        | fail)
      rw [rounds_succ]
      go_wp2_with (first
        | ((with_reducible refine gS rfl ?_); refine xS H ?_; clear H; intro w_ H)
        | ((with_reducible refine gL rfl ?_); refine xL H ?_)
        | fail)
      refine bodyPost_ret (results_c rfl _ _ g2 28 _ (0, 0) _ rfl (H.of (by repeat (first | exact At.head | apply At.tail))) Tryz.underlying28 rfl (by kernel_rfl)) rfl ?_
      rw [HLP.out]
      exact ⟨rfl, Fr.below1 H HX.out (H.of (by repeat (first | exact At.head | apply At.tail)))⟩
def hearB (a b most : Int) : Bool := rightP a b && !decide (most < a)
def hearS (t n now a b most : Int) : Int × Int := if hearB a b most = true then nextP (laterP t n a b (clip now) (-1)).1 (laterP t n a b (clip now) (-1)).2 else tickP t n now
set_option maxHeartbeats 4000000 in
set_option maxRecDepth 100000 in
theorem Hear_calls (t n now a b most : Int) (w : World) : Calls Tryz.prog 85 #[.agg #[.int .i64 t, .int .i64 n], .int .i64 now, .agg #[.int .i64 a, .int .i64 b], .int .i64 most] w fun e w' => e = .returned (.tuple #[.agg #[.int .i64 (hearS t n now a b most).1, .int .i64 (hearS t n now a b most).2], .bool (hearB a b most)]) ∧ Below w.heap.size w w' := by
  obtain ⟨r1, hr1⟩ : ∃ r, rightP a b = r := ⟨_, rfl⟩
  have KR : Hid (∀ W, Calls Tryz.prog 49 #[.agg #[.int .i64 a, .int .i64 b]] W fun e w' => e = .returned (.bool r1) ∧ Below W.heap.size W w') := Lib.hid (fun W => hr1 ▸ Right_calls a b W)
  obtain ⟨⟨y1, y2⟩, hy⟩ : ∃ y, tickP t n now = y := ⟨_, rfl⟩
  have KT : Hid (∀ W, Calls Tryz.prog 84 #[.agg #[.int .i64 t, .int .i64 n], .int .i64 now] W fun e w' => e = .returned (.agg #[.int .i64 y1, .int .i64 y2]) ∧ Below W.heap.size W w') := Lib.hid (fun W => by have := Tick_calls t n now W; rw [hy] at this; exact this)
  obtain ⟨⟨x1, x2⟩, hx⟩ : ∃ y, nextP (laterP t n a b (clip now) (-1)).1 (laterP t n a b (clip now) (-1)).2 = y := ⟨_, rfl⟩
  have KN : Hid (∀ W, Calls Tryz.prog 132 #[.agg #[.int .i64 (laterP t n a b (clip now) (-1)).1, .int .i64 (laterP t n a b (clip now) (-1)).2]] W fun e w' => e = .returned (.agg #[.int .i64 x1, .int .i64 x2]) ∧ Below W.heap.size W w') := Lib.hid (fun W => by have := Next_calls (laterP t n a b (clip now) (-1)).1 (laterP t n a b (clip now) (-1)).2 W; rw [hx] at this; exact this)
  obtain ⟨m, hm⟩ : ∃ r, decide (most < a) = r := ⟨_, rfl⟩
  have HB : Hid (hearB a b most = (r1 && !m) ∧ hearS t n now a b most = if (r1 && !m) = true then (x1, x2) else (y1, y2)) := Lib.hid (by
    have e1 : hearB a b most = (r1 && !m) := by unfold hearB; rw [hr1, hm]
    exact ⟨e1, by unfold hearS; rw [e1, hy, hx]⟩)
  clear hr1 hy hx
  have H := Fr.start0 (M := fun _ => False) (A := fun _ => False) (w := w) (p := fun _ => True) (fun _ h => h.elim) (fun _ _ => trivial)
  cases r1
  case false =>
    go_enter Tryz.func85, Tryz.ntmps85
    go_wp2_with (first
      | ((with_reducible refine gate_dst (N := 4) rfl ?_); refine nB H ?_; clear H; intro g4 w4 H)
      | ((with_reducible refine gate_dst (N := 6) rfl ?_); refine nB H ?_; clear H; intro g6 w6 H)
      | ((with_reducible refine gate_dst (N := 8) rfl ?_); refine nA #[.int .i64 0, .int .i64 0] 140 H ?_; clear H; intro g8 w8 H)
      | ((with_reducible refine gS rfl ?_); refine xS H ?_; clear H; intro w_ H)
      | ((with_reducible refine gL rfl ?_); (try (refine gate_guard (by rfl) ?_; dsimp only)); refine xL H ?_)
      | (go_at_call 49; (with_reducible refine (KR.out _).mono ?_); rintro e w' ⟨rfl, hb⟩; have H1 := H.call hb; clear hb; replace H := H1; clear H1)
      | (go_at_call 84; (with_reducible refine (KT.out _).mono ?_); rintro e w' ⟨rfl, hb⟩; have H1 := H.call hb; clear hb; replace H := H1; clear H1)
      | fail)
    refine bodyPost_ret (results_ct rfl _ _ g8 140 _ (0, 0) _ rfl (H.of (by repeat (first | exact At.head | apply At.tail))) Tryz.underlying140 rfl (by kernel_rfl)) rfl ?_
    rw [HB.out.1, HB.out.2]
    exact ⟨rfl, H.below⟩
  case true =>
    cases m
    case true =>
      go_enter Tryz.func85, Tryz.ntmps85
      go_wp2_with (first
        | ((with_reducible refine gate_dst (N := 4) rfl ?_); refine nB H ?_; clear H; intro g4 w4 H)
        | ((with_reducible refine gate_dst (N := 6) rfl ?_); refine nB H ?_; clear H; intro g6 w6 H)
        | ((with_reducible refine gate_dst (N := 8) rfl ?_); refine nA #[.int .i64 0, .int .i64 0] 140 H ?_; clear H; intro g8 w8 H)
        | ((with_reducible refine gS rfl ?_); refine xS H ?_; clear H; intro w_ H)
        | ((with_reducible refine gL rfl ?_); (try (refine gate_guard (by rfl) ?_; dsimp only)); refine xL H ?_)
        | (go_at_call 49; (with_reducible refine (KR.out _).mono ?_); rintro e w' ⟨rfl, hb⟩; have H1 := H.call hb; clear hb; replace H := H1; clear H1)
        | (go_at_call 84; (with_reducible refine (KT.out _).mono ?_); rintro e w' ⟨rfl, hb⟩; have H1 := H.call hb; clear hb; replace H := H1; clear H1)
        | fail)
      refine bodyPost_ret (results_ct rfl _ _ g8 140 _ (0, 0) _ rfl (H.of (by repeat (first | exact At.head | apply At.tail))) Tryz.underlying140 rfl (by kernel_rfl)) rfl ?_
      rw [HB.out.1, HB.out.2]
      exact ⟨rfl, H.below⟩
    case false =>
      go_enter Tryz.func85, Tryz.ntmps85
      go_upto_region 3 with (first
        | ((with_reducible refine gate_dst (N := 4) rfl ?_); refine nB H ?_; clear H; intro g4 w4 H)
        | ((with_reducible refine gate_dst (N := 6) rfl ?_); refine nB H ?_; clear H; intro g6 w6 H)
        | ((with_reducible refine gate_dst (N := 8) rfl ?_); refine nA #[.int .i64 0, .int .i64 0] 140 H ?_; clear H; intro g8 w8 H)
        | ((with_reducible refine gS rfl ?_); refine xS H ?_; clear H; intro w_ H)
        | ((with_reducible refine gL rfl ?_); (try (refine gate_guard (by rfl) ?_; dsimp only)); refine xL H ?_)
        | (go_at_call 49; (with_reducible refine (KR.out _).mono ?_); rintro e w' ⟨rfl, hb⟩; have H1 := H.call hb; clear hb; replace H := H1; clear H1)
        | fail)
      refine ko_region1 H (by simp only [List.length_cons, List.length_nil, Nat.reduceAdd]; rfl) (g := g8) (by repeat (first | exact Take.head | apply Take.tail)) (by kernel_rfl) (by as_aux_lemma => kernel_rfl) (fun HR => ?_)
      repeat ((first
        | ((with_reducible refine kg_call (f := 45) rfl ?_); refine yC 45 Tryz.func45 (fun W hC hd => ret_below (Clip_calls _ _)) ?_)
        | ((with_reducible refine kg_call (f := 133) rfl ?_); refine yC 133 Tryz.func133 (fun W hC hd => Later3 (depH.hd hd (by kernel_rfl))) ?_)
        | ((with_reducible refine kg_call (f := 132) rfl ?_); refine yC 132 Tryz.func132 (fun W hC hd => KN.out W) ?_)
        | ((with_reducible refine kg_dst (N := 28) rfl ?_); refine yR ?_; intro x28)
        | ((with_reducible refine kg_load rfl ?_); refine yL HR ?_)
        | ((with_reducible refine kg_store rfl ?_); refine yS ?_; (try simp only [Value.cells, List.length_cons, List.length_nil, Nat.reduceAdd]))
        | (refine yP ?_)
        | (refine yO ?_)); (try simp only [Act.put, lsA, lsZ, lsS, Nat.reduceAdd]))
      refine ko_end ?_
      intro w1 H1
      clear HR H
      have H := H1
      clear H1
      (try simp only [List.map_cons, List.map_nil, cv, List.cons_append, List.nil_append] at H)
      go_wp2
      refine bodyPost_ret (results_ct rfl _ _ g8 140 _ (0, 0) _ rfl (H.of (by repeat (first | exact At.head | apply At.tail))) Tryz.underlying140 rfl (by kernel_rfl)) rfl ?_
      rw [HB.out.1, HB.out.2]
      exact ⟨rfl, H.below⟩
def listenS (p : Par) (s : St) (a b : Int) : St := { s with st := (hearS s.st s.sn s.time a b (mostS p s)).1, sn := (hearS s.st s.sn s.time a b (mostS p s)).2 }
set_option maxHeartbeats 4000000 in
set_option maxRecDepth 100000 in
theorem Listen_calls (p : Par) (s : St) (A : Option Addr) (c g : Nat) {tG : TypeId} (me : List Value) (a b : Int) (w : World) (hg : w.heap[g]? = some (.cells (.int .i64 p.N :: .int .i64 p.F :: .int .i64 p.D :: .int .i64 p.Be :: .int .i64 p.Rho :: .int .i64 p.De :: .int .i64 p.Ji :: .int .i64 p.Eps :: .int .i64 p.Mu :: .int .i64 p.Ho :: .int .i64 p.Pu :: .int .i64 p.Se :: .int .i64 s.lo :: .int .i64 s.hi :: .int .i64 s.time :: .bool s.set :: .int .i64 s.held :: .int .i64 s.hops :: .bool s.good :: .slice A s.tab.length c :: .int .i64 s.st :: .int .i64 s.sn :: .int .i64 s.life :: me).toArray tG (0, 0))) :
    Calls Tryz.prog 38 #[.pointer (some ⟨g, 0, none⟩), .agg #[.int .i64 a, .int .i64 b]] w fun e w' => e = .returned (.tuple #[]) ∧ w'.heap[g]? = some (.cells (.int .i64 p.N :: .int .i64 p.F :: .int .i64 p.D :: .int .i64 p.Be :: .int .i64 p.Rho :: .int .i64 p.De :: .int .i64 p.Ji :: .int .i64 p.Eps :: .int .i64 p.Mu :: .int .i64 p.Ho :: .int .i64 p.Pu :: .int .i64 p.Se :: .int .i64 s.lo :: .int .i64 s.hi :: .int .i64 s.time :: .bool s.set :: .int .i64 s.held :: .int .i64 s.hops :: .bool s.good :: .slice A s.tab.length c :: .int .i64 (listenS p s a b).st :: .int .i64 (listenS p s a b).sn :: .int .i64 s.life :: me).toArray tG (0, 0)) ∧ Chg (fun k => k = g) w w' := by
  have H := Fr.start1 (M := fun k => k = g) (A := fun _ => False) (p := fun _ => True) (fun _ h => h.elim) hg rfl Tr_true
  have KMost : Hid (∀ W, W.heap[g]? = some (.cells (.int .i64 p.N :: .int .i64 p.F :: .int .i64 p.D :: .int .i64 p.Be :: .int .i64 p.Rho :: .int .i64 p.De :: .int .i64 p.Ji :: .int .i64 p.Eps :: .int .i64 p.Mu :: .int .i64 p.Ho :: .int .i64 p.Pu :: .int .i64 p.Se :: .int .i64 s.lo :: .int .i64 s.hi :: .int .i64 s.time :: .bool s.set :: .int .i64 s.held :: .int .i64 s.hops :: .bool s.good :: .slice A s.tab.length c :: .int .i64 s.st :: .int .i64 s.sn :: .int .i64 s.life :: me).toArray tG (0, 0)) → Calls Tryz.prog 83 #[.pointer (some ⟨g, 0, none⟩)] W fun e w' => e = .returned (.int .i64 (mostS p s)) ∧ Below W.heap.size W w') := Lib.hid (fun W h => most_calls (tG := tG) p s A c g me W h)
  obtain ⟨mo, hmo⟩ : ∃ x, mostS p s = x := ⟨_, rfl⟩
  obtain ⟨⟨x1, x2⟩, hx⟩ : ∃ x, hearS s.st s.sn s.time a b mo = x := ⟨_, rfl⟩
  obtain ⟨hb, hhb⟩ : ∃ x, hearB a b mo = x := ⟨_, rfl⟩
  have KHear : Hid (∀ W, Calls Tryz.prog 85 #[.agg #[.int .i64 s.st, .int .i64 s.sn], .int .i64 s.time, .agg #[.int .i64 a, .int .i64 b], .int .i64 mo] W fun e w' => e = .returned (.tuple #[.agg #[.int .i64 x1, .int .i64 x2], .bool hb]) ∧ Below W.heap.size W w') := Lib.hid (fun W => by have := Hear_calls s.st s.sn s.time a b mo W; rw [hx, hhb] at this; exact this)
  have hL : (listenS p s a b).st = x1 ∧ (listenS p s a b).sn = x2 := by unfold listenS; rw [hmo, hx]; exact ⟨rfl, rfl⟩
  rw [hL.1, hL.2]
  rw [hmo] at KMost
  clear hg hmo hx hhb hL
  obtain ⟨lo, hi, time, set, held, hops, good, tab, st, sn, life⟩ := s
  dsimp only at H KMost KHear ⊢
  obtain ⟨n, hn⟩ : ∃ n, tab.length = n := ⟨_, rfl⟩
  rw [hn] at H KMost ⊢
  clear hn
  go_enter Tryz.func38, Tryz.ntmps38
  go_upto_region 2 with (first
    | ((with_reducible refine gate_dst (N := 3) rfl ?_); refine nB H ?_; clear H; intro g3 w3 H)
    | fail)
  refine ko_region0 H (by kernel_rfl) (by as_aux_lemma => kernel_rfl) (fun HR => ?_)
  repeat ((first
    | ((with_reducible refine kg_call (f := 83) rfl ?_); refine yC 83 Tryz.func83 (fun W hC hd => KMost.out W ((HR W hC).at (n := .cells (.int .i64 p.N :: .int .i64 p.F :: .int .i64 p.D :: .int .i64 p.Be :: .int .i64 p.Rho :: .int .i64 p.De :: .int .i64 p.Ji :: .int .i64 p.Eps :: .int .i64 p.Mu :: .int .i64 p.Ho :: .int .i64 p.Pu :: .int .i64 p.Se :: .int .i64 lo :: .int .i64 hi :: .int .i64 time :: .bool set :: .int .i64 held :: .int .i64 hops :: .bool good :: .slice A n c :: .int .i64 st :: .int .i64 sn :: .int .i64 life :: me).toArray tG (0, 0)) (by repeat (first | exact At.head | apply At.tail)))) ?_)
    | ((with_reducible refine kg_call (f := 85) rfl ?_); refine yC 85 Tryz.func85 (fun W hC hd => KHear.out W) ?_)
    | ((with_reducible refine kg_dst (N := 4) rfl ?_); refine yV ?_; intro g4)
    | ((with_reducible refine kg_load rfl ?_); refine yL HR ?_)
    | ((with_reducible refine kg_store rfl ?_); refine yS ?_; (try simp only [Value.cells, List.length_cons, List.length_nil, Nat.reduceAdd]))
    | (refine yP ?_)
    | (refine yO ?_)); (try simp only [Act.put, lsA, lsZ, lsS, Nat.reduceAdd]))
  refine ko_end ?_
  intro w1 H1
  clear HR H
  have H := H1
  clear H1
  (try simp only [List.map_cons, List.map_nil, cv, List.cons_append, List.nil_append] at H)
  go_wp2_with (first
    | ((with_reducible refine gS rfl ?_); refine xS H ?_; clear H; intro w_ H)
    | ((with_reducible refine gL rfl ?_); refine xL H ?_)
    | fail)
  refine bodyPost_end (results_none rfl _ _ _) rfl ?_
  exact ⟨rfl, H.of (by repeat (first | exact At.head | apply At.tail)), H.chg⟩
end Go.Proofs.YtdaohldmojpihaaGreatDoor.G

namespace Go.Proofs.YtdaohldmojpihaaGreatDoor.G
open Go.RowKit Go.Proofs.YtdaohldmojpihaaGreatDoorW.PrintWords Go.Proofs.YtdaohldmojpihaaGreatDoorW.PrintLast Go.Proofs.YtdaohldmojpihaaGreatDoorW.PrintMore Go.Proofs.YtdaohldmojpihaaGreatDoorPl Go.Proofs.YtdaohldmojpihaaGreatDoorEm Go.Proofs.YtdaohldmojpihaaGreatDoorKr Go.Proofs.YtdaohldmojpihaaGreatDoorRz Go.Proofs.YtdaohldmojpihaaGreatDoor.X
open Go.Proofs.YtdaohldmojpihaaGreatDoor.So (srt least has srt_length)
set_option linter.unusedVariables false
set_option linter.unusedSimpArgs false
theorem fuse_ok {f : Int} {l : List Sp} {a b : Int} (h : fuse f l = (a, b, true)) : a ≤ b ∧ clip a = a ∧ clip b = b := by
  unfold fuse at h
  split at h
  · cases h
  · unfold fin at h
    split at h
    · cases h
    · rename_i g
      injection h with h1 h2
      injection h2 with h2 h3
      subst h1 h2
      exact ⟨clip_mono (by omega), clip_clip _, clip_clip _⟩
theorem bound_in {x a b : Int} (h1 : a ≤ x) (h2 : x ≤ b) : bound x a b = x := by unfold bound; rw [if_neg (by omega), if_neg (by omega)]
theorem sadd_two {a b : Int} (ha : -2305843009213693952 ≤ a ∧ a ≤ 2305843009213693952) (hb : -2305843009213693952 ≤ b ∧ b ≤ 2305843009213693952) (h : -2305843009213693952 ≤ a + b ∧ a + b ≤ 2305843009213693952) : sadd [a, b] = a + b := by
  unfold sadd
  simp only [List.foldl_cons, List.foldl_nil]
  rw [clip_id ha.1 ha.2, clip_id hb.1 hb.2, Int.zero_add, clip_id ha.1 ha.2, clip_id h.1 h.2]
end Go.Proofs.YtdaohldmojpihaaGreatDoor.G

namespace Go.Proofs.YtdaohldmojpihaaGreatDoor.G
open Go.RowKit Go.Proofs.YtdaohldmojpihaaGreatDoorW.PrintWords Go.Proofs.YtdaohldmojpihaaGreatDoorW.PrintLast Go.Proofs.YtdaohldmojpihaaGreatDoorW.PrintMore Go.Proofs.YtdaohldmojpihaaGreatDoorPl Go.Proofs.YtdaohldmojpihaaGreatDoorEm Go.Proofs.YtdaohldmojpihaaGreatDoorKr Go.Proofs.YtdaohldmojpihaaGreatDoorRz Go.Proofs.YtdaohldmojpihaaGreatDoor.X Go.Proofs.YtdaohldmojpihaaGreatDoorAy
open Go.Proofs.YtdaohldmojpihaaGreatDoor.So (srt least has srt_length)
set_option linter.unusedVariables false
set_option linter.unusedSimpArgs false
theorem Fr.fresh {M A : Nat → Prop} {w W W1 : World} {bl : List (Nat × Obj)} {p : World → Prop} {g : Nat} {ob : Obj} (h : Fr M A w W bl p) (hg : W.heap.size ≤ g) (hb : W1.heap[g]? = some ob) (hB : Below W.heap.size W W1) :
    Fr M A w W1 ((g, ob) :: bl) p := by
  refine ⟨h.av, h.chg.trans (Chg.of_below hB), ?_, ?_, ?_⟩
  · intro x hx
    rcases List.mem_cons.1 hx with rfl | hx
    · exact ⟨hb, .inl (Nat.le_trans h.chg.size hg)⟩
    · obtain ⟨h1, h2⟩ := h.blk x hx
      exact ⟨(hB.block _ (Go.Proofs.YtdaohldmojpihaaGreatDoorEm.obj_lt h1)).trans h1, h2⟩
  · refine List.Pairwise.cons ?_ h.nd
    intro x hx e
    have := Go.Proofs.YtdaohldmojpihaaGreatDoorEm.obj_lt (h.blk x hx).1
    have e' : g = x.1 := e
    omega
  · refine fun W' k => h.tr W' (fun j ha hj => (k j (fun q => ?_) (by have := hB.size; omega)).trans (hB.block j hj))
    rcases q with q | ⟨x, hx, e⟩
    · exact ha (.inl q)
    · rcases List.mem_cons.1 hx with rfl | hx
      · have e' : g = j := e
        omega
      · exact ha (.inr ⟨x, hx, e⟩)
structure InC where
  x : Inp
  Ah : Option Addr
  ch : Nat
  Ax : Option Addr
  ct : Nat
def encI (y : InC) : List Value := [.int .i64 y.x.ticks, .slice y.Ah y.x.heard.length y.ch, .bool y.x.ref, .int .i64 y.x.reading, .bool y.x.given, .slice y.Ax y.x.tab.length y.ct]
def RowI (w : World) (A : Option Addr) (l : List InC) : Prop := ∀ k (hk : k < l.length), (∃ ad, A = some ad ∧ ∀ j u, (encI l[k])[j]? = some u → w.cell? ((ad.add (k * 6)).add j) = some u) ∧ RowH w l[k].Ah l[k].x.heard
theorem rowI_nil (w : World) (A : Option Addr) : RowI w A [] := fun k hk => by simp at hk
def greatX (x : Inp) : Bool := decide (40 < x.heard.length) || decide (128 < x.tab.length) || x.heard.any (fun h => decide (128 < h.n))
def greatP (n : Nat) (l : List InC) : Bool := decide (128 < n) || decide (12 < l.length) || l.any (fun y => greatX y.x)
theorem nat_dec {a : Nat} {n : Nat} {b : Bool} (h : decide (a < n) = b) : decide ((a : Int) < (n : Int)) = b := by rw [← h, Bool.eq_iff_iff]; simp
set_option maxRecDepth 100000 in
set_option maxHeartbeats 16000000 in
theorem great_calls (lo hi time : Int) (set : Bool) (held hops : Int) (good : Bool) (A : Option Addr) (n c : Nat) (st sn life : Int) (Ai : Option Addr) (ci : Nat) (l : List InC) (w : World) (hr : Tr (fun _ => False) w (fun W => RowI W Ai l)) (hl : l.length ≤ 9223372036854775807) (hh : ∀ y ∈ l, y.x.heard.length ≤ 9223372036854775807) :
    Calls Tryz.prog 11 #[.agg #[.int .i64 lo, .int .i64 hi, .int .i64 time, .bool set, .int .i64 held, .int .i64 hops, .bool good, .slice A n c, .int .i64 st, .int .i64 sn, .int .i64 life], .slice Ai l.length ci] w fun e w' => e = .returned (.bool (greatP n l)) ∧ Below w.heap.size w w' := by
  have H := Fr.start0 (M := fun _ => False) (A := fun _ => False) (w := w) (p := fun W => RowI W Ai l) (fun _ h => h.elim) hr
  obtain ⟨b1, h1⟩ : ∃ b, decide (128 < n) = b := ⟨_, rfl⟩
  obtain ⟨b2, h2⟩ : ∃ b, decide (12 < l.length) = b := ⟨_, rfl⟩
  have HG : Hid (greatP n l = (b1 || b2 || l.any (fun y => greatX y.x))) := Lib.hid (by unfold greatP; rw [h1, h2])
  have g1 : decide ((128 : Int) < (n : Int)) = b1 := nat_dec h1
  have g2 : decide ((12 : Int) < (l.length : Int)) = b2 := nat_dec h2
  obtain ⟨m, hm⟩ : ∃ m, l.length = m := ⟨_, rfl⟩
  have HM := Lib.hid hm
  have HH := Lib.hid hh
  rw [hm] at g2 hl ⊢
  clear hr hm h1 h2 hh
  go_enter Tryz.func11, Tryz.ntmps11
  cases b1 with
  | true =>
    go_wp2_with (first
      | ((with_reducible refine gate_dst (N := 2) rfl ?_); refine nB H ?_; clear H; intro g2 w2 H)
      | ((with_reducible refine gate_dst (N := 6) rfl ?_); refine nA #[.int .i64 0, .slice none 0 0, .bool false, .int .i64 0, .bool false, .slice none 0 0] 38 H ?_; clear H; intro g6 w6 H)
      | ((with_reducible refine gate_dst (N := 8) rfl ?_); refine nA #[.int .i64 0, .int .i64 0, .int .i64 0, .int .i64 0, .int .i64 0, .int .i64 0, .bool false, .bool false, .int .i64 0, .int .i64 0, .int .i64 0, .int .i64 0, .int .i64 0, .slice none 0 0, .int .i64 0] 45 H ?_; clear H; intro g8 w8 H)
      | ((with_reducible refine gS rfl ?_); refine xS H ?_; clear H; intro w_ H)
      | ((with_reducible refine gL rfl ?_); (try (refine gate_guard (by rfl) ?_; dsimp only)); refine xL H ?_)
      | fail)
    go_ret
    exact ⟨by rw [HG.out]; rfl, H.below⟩
  | false =>
    cases b2 with
    | true =>
      go_wp2_with (first
        | ((with_reducible refine gate_dst (N := 2) rfl ?_); refine nB H ?_; clear H; intro g2 w2 H)
        | ((with_reducible refine gate_dst (N := 6) rfl ?_); refine nA #[.int .i64 0, .slice none 0 0, .bool false, .int .i64 0, .bool false, .slice none 0 0] 38 H ?_; clear H; intro g6 w6 H)
        | ((with_reducible refine gate_dst (N := 8) rfl ?_); refine nA #[.int .i64 0, .int .i64 0, .int .i64 0, .int .i64 0, .int .i64 0, .int .i64 0, .bool false, .bool false, .int .i64 0, .int .i64 0, .int .i64 0, .int .i64 0, .int .i64 0, .slice none 0 0, .int .i64 0] 45 H ?_; clear H; intro g8 w8 H)
        | ((with_reducible refine gS rfl ?_); refine xS H ?_; clear H; intro w_ H)
        | ((with_reducible refine gL rfl ?_); (try (refine gate_guard (by rfl) ?_; dsimp only)); refine xL H ?_)
        | fail)
      go_ret
      exact ⟨by rw [HG.out]; rfl, H.below⟩
    | false =>
      go_wp2_with (first
        | ((with_reducible refine gate_dst (N := 2) rfl ?_); refine nB H ?_; clear H; intro g2 w2 H)
        | ((with_reducible refine gate_dst (N := 6) rfl ?_); refine nA #[.int .i64 0, .slice none 0 0, .bool false, .int .i64 0, .bool false, .slice none 0 0] 38 H ?_; clear H; intro g6 w6 H)
        | ((with_reducible refine gate_dst (N := 8) rfl ?_); refine nA #[.int .i64 0, .int .i64 0, .int .i64 0, .int .i64 0, .int .i64 0, .int .i64 0, .bool false, .bool false, .int .i64 0, .int .i64 0, .int .i64 0, .int .i64 0, .int .i64 0, .slice none 0 0, .int .i64 0] 45 H ?_; clear H; intro g8 w8 H)
        | ((with_reducible refine gS rfl ?_); refine xS H ?_; clear H; intro w_ H)
        | ((with_reducible refine gL rfl ?_); (try (refine gate_guard (by rfl) ?_; dsimp only)); refine xL H ?_)
        | fail)
      go_loopw [20] (fun v20 wr => ∃ k : Nat, k ≤ m ∧ v20 = .int .i64 k ∧ Hid (∀ y ∈ l.take k, greatX y.x = false) ∧ Fr (fun _ => False) (fun _ => False) w wr [] (fun W => RowI W Ai l)) (fun v20 _ => m - (intOf v20).toNat)
      case atStart => exact ⟨0, by omega, rfl, Lib.hid (fun y hy => by simp at hy), H.drop⟩
      case round =>
        clear H
        obtain ⟨k, hk, rfl, HQ, H⟩ := hrel
        by_cases hlt : k < m
        · have hkl : k < l.length := by rw [HM.out]; exact hlt
          have hk1 : (k : Int) < (m : Int) := by omega
          have hs1 : -9223372036854775808 ≤ (k : Int) + 1 := by omega
          have hs2 : (k : Int) + 1 ≤ 9223372036854775807 := by omega
          obtain ⟨⟨ad, e, hx⟩, hrh⟩ := H.now k hkl
          cases e
          obtain ⟨y, hye⟩ : ∃ y, l[k] = y := ⟨_, rfl⟩
          have HT : Hid (l.take (k + 1) = l.take k ++ [y]) := Lib.hid (by rw [List.take_succ_eq_append_getElem hkl, hye])
          have HMEM : Hid (y ∈ l) := Lib.hid (hye ▸ List.getElem_mem hkl)
          have HRH : Hid (∀ W, RowI W (some ad) l → RowH W y.Ah y.x.heard) := Lib.hid (fun W h => by have := (h k hkl).2; rw [hye] at this; exact this)
          rw [hye] at hx hrh
          clear hye hrh
          obtain ⟨⟨ticks, heard, ref, reading, given, tab⟩, Ah, ch, Ax, ct⟩ := y
          have HC : Hid (∀ j u, [Value.int .i64 ticks, .slice Ah heard.length ch, .bool ref, .int .i64 reading, .bool given, .slice Ax tab.length ct][j]? = some u → wr.cell? ((ad.add (k * 6)).add j) = some u) := Lib.hid hx
          have hhl : heard.length ≤ 9223372036854775807 := HH.out _ HMEM.out
          obtain ⟨d1, e1⟩ : ∃ b, decide (40 < heard.length) = b := ⟨_, rfl⟩
          obtain ⟨d2, e2⟩ : ∃ b, decide (128 < tab.length) = b := ⟨_, rfl⟩
          have HX : Hid (greatX ⟨ticks, heard, ref, reading, given, tab⟩ = (d1 || d2 || heard.any (fun h => decide (128 < h.n)))) := Lib.hid (by unfold greatX; rw [e1, e2])
          have f1 : decide ((40 : Int) < (heard.length : Int)) = d1 := nat_dec e1
          have f2 : decide ((128 : Int) < (tab.length : Int)) = d2 := nat_dec e2
          obtain ⟨nh, hnh⟩ : ∃ x, heard.length = x := ⟨_, rfl⟩
          obtain ⟨nt, hnt⟩ : ∃ x, tab.length = x := ⟨_, rfl⟩
          have HNH := Lib.hid hnh
          rw [hnh] at HC hhl f1
          rw [hnt] at HC f2
          clear hx e1 e2 hnh hnt
          have HBAD : Hid (greatX ⟨ticks, heard, ref, reading, given, tab⟩ = true → greatP n l = true) := Lib.hid (fun h => by
            rw [HG.out, List.any_eq_true.2 ⟨_, HMEM.out, h⟩]; rfl)
          dsimp only at HRH
          cases d1 with
          | true =>
            go_wp2_with (first
              | ((with_reducible refine gate_dst (N := 23) rfl ?_); refine load_cells rfl rfl (ad := ad.add (k * 6)) (cs := [.int .i64 ticks, .slice Ah nh ch, .bool ref, .int .i64 reading, .bool given, .slice Ax nt ct]) ?hx Tryz.underlying38 rfl (by kernel_rfl) HC.out ?_; (case hx => first | rfl | (go_simp; done) | (go_simp; rfl)))
              | ((with_reducible refine gate_dst (N := 2) rfl ?_); refine nB H ?_; clear H; intro g2 w2 H)
              | ((with_reducible refine gate_dst (N := 6) rfl ?_); refine nA #[.int .i64 0, .slice none 0 0, .bool false, .int .i64 0, .bool false, .slice none 0 0] 38 H ?_; clear H; intro g6 w6 H)
              | ((with_reducible refine gate_dst (N := 8) rfl ?_); refine nA #[.int .i64 0, .int .i64 0, .int .i64 0, .int .i64 0, .int .i64 0, .int .i64 0, .bool false, .bool false, .int .i64 0, .int .i64 0, .int .i64 0, .int .i64 0, .int .i64 0, .slice none 0 0, .int .i64 0] 45 H ?_; clear H; intro g8 w8 H)
              | ((with_reducible refine gS rfl ?_); refine xS H ?_; clear H; intro w_ H)
              | ((with_reducible refine gL rfl ?_); (try (refine gate_guard (by rfl) ?_; dsimp only)); refine xL H ?_)
              | fail)
            go_ret
            exact ⟨by rw [HBAD.out (by rw [HX.out]; rfl)]; rfl, H.below⟩
          | false =>
            cases d2 with
            | true =>
              go_wp2_with (first
                | ((with_reducible refine gate_dst (N := 23) rfl ?_); refine load_cells rfl rfl (ad := ad.add (k * 6)) (cs := [.int .i64 ticks, .slice Ah nh ch, .bool ref, .int .i64 reading, .bool given, .slice Ax nt ct]) ?hx Tryz.underlying38 rfl (by kernel_rfl) HC.out ?_; (case hx => first | rfl | (go_simp; done) | (go_simp; rfl)))
                | ((with_reducible refine gate_dst (N := 2) rfl ?_); refine nB H ?_; clear H; intro g2 w2 H)
                | ((with_reducible refine gate_dst (N := 6) rfl ?_); refine nA #[.int .i64 0, .slice none 0 0, .bool false, .int .i64 0, .bool false, .slice none 0 0] 38 H ?_; clear H; intro g6 w6 H)
                | ((with_reducible refine gate_dst (N := 8) rfl ?_); refine nA #[.int .i64 0, .int .i64 0, .int .i64 0, .int .i64 0, .int .i64 0, .int .i64 0, .bool false, .bool false, .int .i64 0, .int .i64 0, .int .i64 0, .int .i64 0, .int .i64 0, .slice none 0 0, .int .i64 0] 45 H ?_; clear H; intro g8 w8 H)
                | ((with_reducible refine gS rfl ?_); refine xS H ?_; clear H; intro w_ H)
                | ((with_reducible refine gL rfl ?_); (try (refine gate_guard (by rfl) ?_; dsimp only)); refine xL H ?_)
                | fail)
              go_ret
              exact ⟨by rw [HBAD.out (by rw [HX.out]; rfl)]; rfl, H.below⟩
            | false =>
              go_wp2_with (first
                | ((with_reducible refine gate_dst (N := 23) rfl ?_); refine load_cells rfl rfl (ad := ad.add (k * 6)) (cs := [.int .i64 ticks, .slice Ah nh ch, .bool ref, .int .i64 reading, .bool given, .slice Ax nt ct]) ?hx Tryz.underlying38 rfl (by kernel_rfl) HC.out ?_; (case hx => first | rfl | (go_simp; done) | (go_simp; rfl)))
                | ((with_reducible refine gate_dst (N := 2) rfl ?_); refine nB H ?_; clear H; intro g2 w2 H)
                | ((with_reducible refine gate_dst (N := 6) rfl ?_); refine nA #[.int .i64 0, .slice none 0 0, .bool false, .int .i64 0, .bool false, .slice none 0 0] 38 H ?_; clear H; intro g6 w6 H)
                | ((with_reducible refine gate_dst (N := 8) rfl ?_); refine nA #[.int .i64 0, .int .i64 0, .int .i64 0, .int .i64 0, .int .i64 0, .int .i64 0, .bool false, .bool false, .int .i64 0, .int .i64 0, .int .i64 0, .int .i64 0, .int .i64 0, .slice none 0 0, .int .i64 0] 45 H ?_; clear H; intro g8 w8 H)
                | ((with_reducible refine gS rfl ?_); refine xS H ?_; clear H; intro w_ H)
                | ((with_reducible refine gL rfl ?_); (try (refine gate_guard (by rfl) ?_; dsimp only)); refine xL H ?_)
                | fail)
              go_loopw [37] (fun v37 wr => ∃ j : Nat, j ≤ nh ∧ v37 = .int .i64 j ∧ Hid (∀ h ∈ heard.take j, decide (128 < h.n) = false) ∧ Fr (fun _ => False) (fun _ => False) w wr [] (fun W => RowI W (some ad) l)) (fun v37 _ => nh - (intOf v37).toNat)
              case atStart => exact ⟨0, by omega, rfl, Lib.hid (fun y hy => by simp at hy), H.drop⟩
              case round =>
                clear H HC
                obtain ⟨j, hj, rfl, HJ, H⟩ := hrel
                by_cases hjt : j < nh
                · have hjl : j < heard.length := by rw [HNH.out]; exact hjt
                  have hj1 : (j : Int) < (nh : Int) := by omega
                  have hs3 : -9223372036854775808 ≤ (j : Int) + 1 := by omega
                  have hs4 : (j : Int) + 1 ≤ 9223372036854775807 := by omega
                  obtain ⟨ad2, e2, hc2⟩ := HRH.out _ H.now j hjl
                  cases e2
                  obtain ⟨z, hze⟩ : ∃ z, heard[j] = z := ⟨_, rfl⟩
                  have HTJ : Hid (heard.take (j + 1) = heard.take j ++ [z]) := Lib.hid (by rw [List.take_succ_eq_append_getElem hjl, hze])
                  have HZM : Hid (z ∈ heard) := Lib.hid (hze ▸ List.getElem_mem hjl)
                  rw [hze] at hc2
                  clear hze
                  obtain ⟨kind, frm, mlo, mhi, mheld, mhops, mgood, mref, slo, shi, pulse, mst, msn, Am, nm, cm, age⟩ := z
                  have HC2 : Hid (∀ j2 u, [Value.int .i64 kind, .int .i64 frm, .int .i64 mlo, .int .i64 mhi, .int .i64 mheld, .int .i64 mhops, .bool mgood, .bool mref, .int .i64 slo, .int .i64 shi, .int .i64 pulse, .int .i64 mst, .int .i64 msn, .slice Am nm cm, .int .i64 age][j2]? = some u → wr.cell? ((ad2.add (j * 15)).add j2) = some u) := Lib.hid hc2
                  obtain ⟨d3, e3⟩ : ∃ b, decide (128 < nm) = b := ⟨_, rfl⟩
                  have f3 : decide ((128 : Int) < (nm : Int)) = d3 := nat_dec e3
                  have HE3 := Lib.hid e3
                  clear hc2 e3
                  cases d3 with
                  | true =>
                    go_wp2_with (first
                      | ((with_reducible refine gate_dst (N := 40) rfl ?_); refine load_cells rfl rfl (ad := ad2.add (j * 15)) (cs := [.int .i64 kind, .int .i64 frm, .int .i64 mlo, .int .i64 mhi, .int .i64 mheld, .int .i64 mhops, .bool mgood, .bool mref, .int .i64 slo, .int .i64 shi, .int .i64 pulse, .int .i64 mst, .int .i64 msn, .slice Am nm cm, .int .i64 age]) ?hx Tryz.underlying45 rfl (by kernel_rfl) HC2.out ?_; (case hx => first | rfl | (go_simp; done) | (go_simp; rfl)))
                      | ((with_reducible refine gate_dst (N := 2) rfl ?_); refine nB H ?_; clear H; intro g2 w2 H)
                      | ((with_reducible refine gate_dst (N := 6) rfl ?_); refine nA #[.int .i64 0, .slice none 0 0, .bool false, .int .i64 0, .bool false, .slice none 0 0] 38 H ?_; clear H; intro g6 w6 H)
                      | ((with_reducible refine gate_dst (N := 8) rfl ?_); refine nA #[.int .i64 0, .int .i64 0, .int .i64 0, .int .i64 0, .int .i64 0, .int .i64 0, .bool false, .bool false, .int .i64 0, .int .i64 0, .int .i64 0, .int .i64 0, .int .i64 0, .slice none 0 0, .int .i64 0] 45 H ?_; clear H; intro g8 w8 H)
                      | ((with_reducible refine gS rfl ?_); refine xS H ?_; clear H; intro w_ H)
                      | ((with_reducible refine gL rfl ?_); (try (refine gate_guard (by rfl) ?_; dsimp only)); refine xL H ?_)
                      | fail)
                    go_ret
                    exact ⟨by rw [HBAD.out (by rw [HX.out, List.any_eq_true.2 ⟨_, HZM.out, HE3.out⟩]; rfl)]; rfl, H.below⟩
                  | false =>
                    go_wp2_with (first
                      | ((with_reducible refine gate_dst (N := 40) rfl ?_); refine load_cells rfl rfl (ad := ad2.add (j * 15)) (cs := [.int .i64 kind, .int .i64 frm, .int .i64 mlo, .int .i64 mhi, .int .i64 mheld, .int .i64 mhops, .bool mgood, .bool mref, .int .i64 slo, .int .i64 shi, .int .i64 pulse, .int .i64 mst, .int .i64 msn, .slice Am nm cm, .int .i64 age]) ?hx Tryz.underlying45 rfl (by kernel_rfl) HC2.out ?_; (case hx => first | rfl | (go_simp; done) | (go_simp; rfl)))
                      | ((with_reducible refine gate_dst (N := 2) rfl ?_); refine nB H ?_; clear H; intro g2 w2 H)
                      | ((with_reducible refine gate_dst (N := 6) rfl ?_); refine nA #[.int .i64 0, .slice none 0 0, .bool false, .int .i64 0, .bool false, .slice none 0 0] 38 H ?_; clear H; intro g6 w6 H)
                      | ((with_reducible refine gate_dst (N := 8) rfl ?_); refine nA #[.int .i64 0, .int .i64 0, .int .i64 0, .int .i64 0, .int .i64 0, .int .i64 0, .bool false, .bool false, .int .i64 0, .int .i64 0, .int .i64 0, .int .i64 0, .int .i64 0, .slice none 0 0, .int .i64 0] 45 H ?_; clear H; intro g8 w8 H)
                      | ((with_reducible refine gS rfl ?_); refine xS H ?_; clear H; intro w_ H)
                      | ((with_reducible refine gL rfl ?_); (try (refine gate_guard (by rfl) ?_; dsimp only)); refine xL H ?_)
                      | fail)
                    go_roundw
                    case rel => exact ⟨j + 1, by omega, by simp, Lib.hid (fun h hm => by
                      rw [HTJ.out] at hm
                      rcases List.mem_append.1 hm with hm | hm
                      · exact HJ.out h hm
                      · rw [List.mem_singleton.1 hm]; exact HE3.out), H.drop⟩
                    case measure => simp [intOf]; omega
                · obtain rfl : j = nh := by omega
                  go_wp2_with (first
                    | ((with_reducible refine gate_dst (N := 2) rfl ?_); refine nB H ?_; clear H; intro g2 w2 H)
                    | ((with_reducible refine gate_dst (N := 6) rfl ?_); refine nA #[.int .i64 0, .slice none 0 0, .bool false, .int .i64 0, .bool false, .slice none 0 0] 38 H ?_; clear H; intro g6 w6 H)
                    | ((with_reducible refine gate_dst (N := 8) rfl ?_); refine nA #[.int .i64 0, .int .i64 0, .int .i64 0, .int .i64 0, .int .i64 0, .int .i64 0, .bool false, .bool false, .int .i64 0, .int .i64 0, .int .i64 0, .int .i64 0, .int .i64 0, .slice none 0 0, .int .i64 0] 45 H ?_; clear H; intro g8 w8 H)
                    | ((with_reducible refine gS rfl ?_); refine xS H ?_; clear H; intro w_ H)
                    | ((with_reducible refine gL rfl ?_); (try (refine gate_guard (by rfl) ?_; dsimp only)); refine xL H ?_)
                    | fail)
                  go_roundw
                  case rel => exact ⟨k + 1, by omega, by simp, Lib.hid (fun y hm => by
                    rw [HT.out] at hm
                    rcases List.mem_append.1 hm with hm | hm
                    · exact HQ.out y hm
                    · rw [List.mem_singleton.1 hm, HX.out]
                      have e : heard.take j = heard := List.take_of_length_le (by rw [HNH.out]; exact Nat.le_refl _)
                      rw [List.any_eq_false.2 (fun h hm => by rw [HJ.out h (by rw [e]; exact hm)]; simp)]
                      rfl), H⟩
                  case measure => simp [intOf]; omega
        · obtain rfl : k = m := by omega
          go_wp2_with (first
            | ((with_reducible refine gate_dst (N := 2) rfl ?_); refine nB H ?_; clear H; intro g2 w2 H)
            | ((with_reducible refine gate_dst (N := 6) rfl ?_); refine nA #[.int .i64 0, .slice none 0 0, .bool false, .int .i64 0, .bool false, .slice none 0 0] 38 H ?_; clear H; intro g6 w6 H)
            | ((with_reducible refine gate_dst (N := 8) rfl ?_); refine nA #[.int .i64 0, .int .i64 0, .int .i64 0, .int .i64 0, .int .i64 0, .int .i64 0, .bool false, .bool false, .int .i64 0, .int .i64 0, .int .i64 0, .int .i64 0, .int .i64 0, .slice none 0 0, .int .i64 0] 45 H ?_; clear H; intro g8 w8 H)
            | ((with_reducible refine gS rfl ?_); refine xS H ?_; clear H; intro w_ H)
            | ((with_reducible refine gL rfl ?_); (try (refine gate_guard (by rfl) ?_; dsimp only)); refine xL H ?_)
            | fail)
          go_ret
          refine ⟨?_, H.below⟩
          have e : l.take k = l := List.take_of_length_le (by rw [HM.out]; exact Nat.le_refl _)
          rw [HG.out, List.any_eq_false.2 (fun y hm => by rw [HQ.out y (by rw [e]; exact hm)]; simp)]
          rfl
end Go.Proofs.YtdaohldmojpihaaGreatDoor.G

namespace Go.Proofs.YtdaohldmojpihaaGreatDoor.Mb
open Go.RowKit Go.Maps Go.ChangeMaps Go.MapKept
open Go.WideElems (Fit rd rg pl rd_key rd_val rg_of other_key rd_mk)
set_option linter.unusedVariables false
set_option linter.unusedSimpArgs false
def nv (v : Int × Int) : Value := .agg #[.int .i64 v.1, .int .i64 v.2]
def pr (v : Int × Int) : DataW Unit := .agg [.lit (.int .i64 v.1), .lit (.int .i64 v.2)]
def nearE (v : Value) : Option (DataW Unit × List MemPlace) :=
  match v with
  | .agg cs => match cs.toList with
    | [.int .i64 a, .int .i64 q] => some (pr (a, q), [])
    | _ => none
  | _ => none
theorem nearE_mk (v : Int × Int) : nearE (nv v) = some (pr v, []) := rfl
theorem nearE_inv {v : Value} {y : DataW Unit × List MemPlace} (h : nearE v = some y) : ∃ c : Int × Int, v = nv c ∧ y = (pr c, []) := by
  unfold nearE at h
  split at h
  · rename_i cs
    split at h
    · rename_i a q hl
      cases h
      refine ⟨(a, q), ?_, rfl⟩
      unfold nv
      congr 1
      exact Array.toList_inj.1 hl
    · cases h
  · cases h
theorem pr_inj {a b : Int × Int} (h : pr a = pr b) : a = b := by
  unfold pr at h
  injection h with h
  injection h with h1 h2
  injection h2 with h2 _
  injection h1 with h1
  injection h1 with _ h1
  injection h2 with h2
  injection h2 with _ h2
  exact Prod.ext h1 h2
abbrev ky (k : Int) : Lit := .int .i64 k
theorem ky_key (k : Int) : WideAt.IsKeyLit (ky k) := by first | exact trivial | (unfold WideAt.IsKeyLit; simp [ky])
theorem ky_ne {a b : Int} (h : a ≠ b) : ky a ≠ ky b := fun e => h (by injection e)
abbrev FT := Nat → Option (Int × Int)
structure Ab (D : DataW Unit) (f : FT) : Prop where
  has : ∀ k : Nat, k < 48 → Maps.has D (ky k) = (f k).isSome
  only : ∀ kl, Maps.has D kl = true → ∃ k : Nat, k < 48 ∧ kl = ky k
  at_ : ∀ (k : Nat) v, k < 48 → f k = some v → ∀ zd, D.atKey (ky k) zd = pr v
def upd (f : FT) (k : Nat) (v : Option (Int × Int)) : FT := fun j => if j = k then v else f j
theorem ab_empty : Ab (.map []) (fun _ => none) := ⟨fun _ _ => rfl, fun kl h => absurd h (by simp [Maps.has]), fun _ _ _ h => absurd h (by simp)⟩
theorem Ab.put {D : DataW Unit} {f : FT} (h : Ab D f) (hm : IsMap D) {k : Nat} (hk : k < 48) (v : Int × Int) : Ab (D.put (ky k) (pr v)) (upd f k (some v)) := by
  refine ⟨fun j hj => ?_, fun kl hkl => ?_, fun j u hj hu zd => ?_⟩
  · unfold upd
    by_cases e : j = k
    · subst e
      rw [if_pos rfl, has_put_same hm (ky_key _)]; rfl
    · rw [if_neg e, has_put_other (ky_ne (by omega)), h.has j hj]
  · by_cases e : kl = ky k
    · exact ⟨k, hk, e⟩
    · rw [has_put_other e] at hkl
      exact h.only kl hkl
  · unfold upd at hu
    by_cases e : j = k
    · subst e
      rw [if_pos rfl] at hu
      cases hu
      exact atKey_put_same hm (ky_key _) _ _
    · rw [if_neg e] at hu
      rw [atKey_put_other (ky_ne (by omega))]
      exact h.at_ j u hj hu zd
theorem Ab.del {D : DataW Unit} {f : FT} (h : Ab D f) {k : Nat} (hk : k < 48) : Ab (D.del (ky k)) (upd f k none) := by
  refine ⟨fun j hj => ?_, fun kl hkl => ?_, fun j u hj hu zd => ?_⟩
  · unfold upd
    by_cases e : j = k
    · subst e
      rw [if_pos rfl, has_del_same]; rfl
    · rw [if_neg e, has_del_other (ky_ne (by omega)), h.has j hj]
  · by_cases e : kl = ky k
    · rw [e, has_del_same] at hkl; cases hkl
    · rw [has_del_other e] at hkl
      exact h.only kl hkl
  · unfold upd at hu
    by_cases e : j = k
    · rw [if_pos e] at hu; cases hu
    · rw [if_neg e] at hu
      rw [atKey_del_other (ky_ne (by omega))]
      exact h.at_ j u hj hu zd
theorem Ab.out {D : DataW Unit} {f : FT} (h : Ab D f) {k : Int} (hk : k < 0 ∨ 48 ≤ k) : Maps.has D (ky k) = false := by
  cases e : Maps.has D (ky k) with
  | false => rfl
  | true =>
    obtain ⟨j, hj, e2⟩ := h.only _ e
    injection e2 with _ e2
    omega
def nums (f : FT) : List Int := ((List.range 48).filter (fun k => (f k).isSome)).map (fun k : Nat => (k : Int))
theorem mem_nums {f : FT} {x : Int} : x ∈ nums f ↔ ∃ k : Nat, k < 48 ∧ x = k ∧ (f k).isSome = true := by
  unfold nums
  simp only [List.mem_map, List.mem_filter, List.mem_range]
  constructor
  · rintro ⟨k, ⟨h1, h2⟩, rfl⟩; exact ⟨k, h1, rfl, h2⟩
  · rintro ⟨k, h1, rfl, h2⟩; exact ⟨k, ⟨h1, h2⟩, rfl⟩
theorem nums_pair (f : FT) : (nums f).Pairwise (fun a b => a < b) := by
  unfold nums
  rw [List.pairwise_map]
  exact (List.pairwise_lt_range.filter _).imp (fun h => by omega)
theorem nums_nodup (f : FT) : (nums f).Nodup := (nums_pair f).imp (fun h => by omega)
theorem nums_length (f : FT) : (nums f).length ≤ 48 := by
  unfold nums
  rw [List.length_map]
  exact Nat.le_trans (List.length_filter_le _ _) (by simp)
theorem nums_sorted (f : FT) {ss : List Int} (h : ss.Perm (nums f)) : ss.mergeSort leI = nums f := by
  rw [mergeSort_of_perm_i h]
  exact List.mergeSort_of_pairwise ((nums_pair f).imp (fun h => by simp only [leI, decide_eq_true_eq]; omega))
section
variable {P : Program} {w : World} {b n : Nat} {D : DataW Unit} {f : FT}
theorem keys_perm (hown : w.ownsMap P 3 nearE b n D) (hk : P.underlying 3 = some (.int .i64)) (h : Ab D f) : (nums f).Perm (intKeys D) := by
  obtain ⟨es, hD, hpw, _⟩ := hown.entries (int_keyed hk)
  obtain ⟨es', hD', hko⟩ := hown.keysOf
  obtain rfl : es = es' := by rw [hD] at hD'; simpa using hD'
  subst hD
  refine perm_intKeys hpw (fun p hp => by obtain ⟨v, hv⟩ := hko p hp; obtain ⟨x, _, hx, _⟩ := Maps.keyOf_i64 hk hv; exact ⟨x, hx⟩) (nums_nodup f) (fun x => ?_)
  rw [mem_nums]
  constructor
  · rintro ⟨k, hk, rfl, hs⟩
    rw [← h.has k hk] at hs
    exact hs
  · intro hx
    obtain ⟨k, hk, e⟩ := h.only _ hx
    injection e with _ e
    subst e
    exact ⟨k, hk, rfl, by rw [← h.has k hk]; exact hx⟩
theorem size_ab (hown : w.ownsMap P 3 nearE b n D) (hk : P.underlying 3 = some (.int .i64)) (h : Ab D f) : Maps.size D = (nums f).length := by
  rw [(keys_perm hown hk h).length_eq]
  obtain ⟨es, hD, _⟩ := hown.entries (int_keyed hk)
  subst hD
  show es.length = (es.map _).length
  rw [List.length_map]
theorem own48 (hown : w.ownsMap P 3 nearE b n D) (hk : P.underlying 3 = some (.int .i64)) (h : Ab D f) : w.ownsMap P 3 nearE b 48 D := by
  have hs := size_ab hown hk h
  have := nums_length f
  obtain ⟨es, clock, h1, h2, h3, rfl⟩ := hown
  refine ⟨es, clock, h1, h2, ?_, rfl⟩
  have e : Maps.size (DataW.map ((es.toList.map (rg P 3 nearE)).foldr DataW.insert [])) = es.size := length_read es
  omega
end
section
variable {P : Program} {k : TypeId} {R : Value → Option (DataW Unit × List MemPlace)} {w : World} {b r n : Nat} {D : DataW Unit} {left : Lit → Bool} {cnt : Nat}
theorem filter_set_length {α : Type} (q : α → Bool) : ∀ (l : List α) (j : Nat) {x y : α}, l[j]? = some x → q y = q x → ((l.set j y).filter q).length = (l.filter q).length
  | [], _, _, _, h, _ => by simp at h
  | a :: l, 0, x, y, h, e => by
    have h' : a = x := by simpa using h
    subst h'
    rw [List.set_cons_zero, List.filter_cons, List.filter_cons, e]
    split <;> rfl
  | a :: l, j + 1, x, y, h, e => by
    have ih := filter_set_length q l j (y := y) (by simpa using h) e
    rw [List.set_cons_succ, List.filter_cons, List.filter_cons]
    split
    · rw [List.length_cons, List.length_cons, ih]
    · exact ih
theorem ranges_put {t e : TypeId} (h : w.ranges P k R b r n D left cnt) (K : Keyed P k) (ht : P.underlying t = some (.map k e)) {key val : Value} {kl : Lit} (hkey : keyOf P k key = some kl) (hl : left kl = false) (hh : Maps.has D kl = true) {yv : DataW Unit × List MemPlace} (hv : R val = some yv) :
    ∃ w', (Instr.mapUpdate t (.map (some b)) key val).run P w = .ok () w' ∧ w'.ranges P k R b r n (D.put kl yv.1) left cnt ∧ w.mapTurned w' b := by
  have hne := h.ne
  obtain ⟨es, clock, since, seen, c0, hb, F, hs, rfl, hr, hold, rfl, hl1, hl2, hsc, hsk⟩ := h
  have keyof : ∀ x ∈ es.toList, (rg P k R x).1 = kl → x.key = key := fun x hx e => by
    obtain ⟨y, hy⟩ := F.reads x hx
    have hy1 := rd_key hy
    rw [rg_of hy] at e
    exact K.inj (e ▸ hy1) hkey
  have ofkey : ∀ x ∈ es.toList, x.key = key → (rg P k R x).1 = kl := fun x hx e => by
    obtain ⟨y, hy⟩ := F.reads x hx
    have hy1 := rd_key hy
    rw [e, hkey] at hy1
    rw [rg_of hy]
    exact (Option.some.inj hy1).symm
  rcases K.find w hkey es.toList F.keys with ⟨_, g⟩ | ⟨j, e0, h1, h2, h3⟩
  · obtain ⟨p, hp, hpk⟩ := List.any_eq_true.1 hh
    obtain ⟨x, hx, rfl⟩ := List.mem_map.1 (mem_sorted.1 hp)
    exact absurd (keyof x hx (WideAt.sameKey_eq hpk)) (g x hx)
  have hj : es[j]? = some e0 := by simpa using h2
  have hm0 : e0 ∈ es.toList := List.mem_of_getElem? h2
  have hkeyf : ∀ e', es[j]? = some e' → ({ e' with key := key, val := val } : MapEntry).key = e'.key := fun e' he' => by rw [hj] at he'; cases he'; exact h3.symm
  have hlist : (es.modify j (fun e' => { e' with key := key, val := val })).toList = es.toList.set j { e0 with key := key, val := val } := by rw [Array.toList_modify, modify_eq_set _ _ _ _ h2]
  have hnew : (rg P k R { e0 with key := key, val := val }).1 = kl := by rw [rg_of (rd_mk hkey hv)]
  have hseen : seen.contains e0.born = true := by
    have := hl1 e0 hm0
    rw [ofkey e0 hm0 h3, hl] at this
    simpa using this.symm
  have who : ∀ x ∈ es.toList.set j { e0 with key := key, val := val }, x = { e0 with key := key, val := val } ∨ (x ∈ es.toList ∧ x.key ≠ key) := by
    intro x hx
    obtain ⟨i, hi, ex⟩ := List.getElem_of_mem hx
    rw [List.getElem_set] at ex
    split at ex
    · exact Or.inl ex.symm
    · rename_i hne
      have hi' : i < es.toList.length := by simpa using hi
      refine Or.inr ⟨ex ▸ List.getElem_mem hi', ?_⟩
      rw [← h3]
      exact other_key F h2 (by rw [List.getElem?_eq_getElem hi', ex]) (fun e1 => hne e1.symm)
  have hjl : j < es.toList.length := (List.getElem?_eq_some_iff.1 h2).1
  have F' : Fit P k R (es.modify j (fun e' => { e' with key := key, val := val })) clock := by
    refine ⟨by simpa using F.size, stamped_modify F.stamped _ _ (fun _ _ => rfl) (fun e' _ he' => hkeyf e' he'), ?_⟩
    intro x hx
    rw [hlist] at hx
    rcases who x hx with rfl | ⟨hx', hne⟩
    · exact ⟨_, rd_mk hkey hv⟩
    · exact F.reads x hx'
  refine ⟨setBlock w b (.map (es.modify j (fun e' => { e' with key := key, val := val })) clock), ?_, ⟨_, clock, since, seen, c0, heap_setBlock_same hb _, F', by simpa using hs, ?_, (heap_setBlock_other hb _ hne).trans hr, ?_, ?_, ?_, ?_, hsc, hsk⟩, ⟨es, clock, _, clock, hb, rfl⟩⟩
  · simp [Instr.mapUpdate, run_underlying ht, MapKept.run_getObj_map hb, K.check w false hkey, h1, hj, h3, K.stays w hkey, MapKept.run_setObj_map _ hb, Result.andThen, setBlock]
  · rw [DataW.put_eq]
    congr 1
    symm
    refine Maps.sorted_put K.one ⟨key, hkey⟩ (Maps.fit_keys F) (Maps.fit_apart K F) ?_
    rw [Maps.filter_one K F hkey h2 h3, hlist, List.map_set, rg_of (rd_mk hkey hv)]
    exact set_perm _ _ (by simpa using hjl) _
  · intro x hx
    rw [hlist] at hx
    rcases who x hx with rfl | ⟨hx', _⟩
    · exact hold e0 hm0
    · exact hold x hx'
  · have e1 : ∀ a : Array MapEntry, (leftOf a seen).size = (a.toList.filter fun e => !seen.contains e.born).length := fun a => by
      unfold leftOf
      rw [← Array.toList_filter, Array.length_toList]
    rw [e1, e1, hlist]
    exact filter_set_length _ _ _ h2 rfl
  · intro x hx
    rw [hlist] at hx
    rcases who x hx with rfl | ⟨hx', _⟩
    · rw [hnew, hl]
      show false = !seen.contains e0.born
      rw [hseen]; rfl
    · exact hl1 x hx'
  · intro kl' hk'
    obtain ⟨x, hx, rfl⟩ := hl2 kl' hk'
    refine ⟨x, ?_, rfl⟩
    have hne2 : x.key ≠ key := fun e => by
      rw [ofkey x hx e, hl] at hk'
      cases hk'
    rw [hlist]
    obtain ⟨i, hi, ex⟩ := List.getElem_of_mem hx
    have hij : i ≠ j := fun e => by
      subst e
      rw [List.getElem?_eq_getElem hi, ex] at h2
      cases h2
      exact hne2 h3
    exact List.mem_of_getElem? (i := i) (by rw [List.getElem?_set_ne (fun e => hij e.symm), List.getElem?_eq_getElem hi, ex])
end
end Go.Proofs.YtdaohldmojpihaaGreatDoor.Mb

namespace Go.Proofs
open Go.Shelf
def Tryz.keysA_ren : Go.Shelf.Ren := ⟨fun | 7 => 114 | 10 => 148 | n => n, fun | 23 => 112 | 26 => 3 | 3 => 120 | 28 => 165 | 0 => 0 | 27 => 164 | 33 => 192 | 4 => 4 | n => n, fun | n => n⟩
theorem Tryz.keysA : Go.Proofs.SlLaysZI.n7 Tryz.prog Tryz.keysA_ren := {
  mixed := by kernel_rfl
  f7 := ⟨Tryz.f114.name, by decide, Tryz.func114.trans (congrArg some (by kernel_rfl))⟩
  f10 := ⟨Tryz.f148.name, by decide, Tryz.func148.trans (congrArg some (by kernel_rfl))⟩
  t0 := Tryz.underlying0
  a0 := Tryz.isAgg0
  z0 := Tryz.sizeOf0
  v0 := Tryz.zeroValue0
  t4 := Tryz.underlying4
  a4 := Tryz.isAgg4
  z4 := Tryz.sizeOf4
  v4 := Tryz.zeroValue4
  t23 := Tryz.underlying112
  a23 := Tryz.isAgg112
  z23 := Tryz.sizeOf112
  v23 := Tryz.zeroValue112
  t26 := Tryz.underlying3
  a26 := Tryz.isAgg3
  z26 := Tryz.sizeOf3
  v26 := Tryz.zeroValue3
  t27 := Tryz.underlying164
  a27 := Tryz.isAgg164
  z27 := Tryz.sizeOf164
  v27 := Tryz.zeroValue164
  t28 := Tryz.underlying165
  a28 := Tryz.isAgg165
  z28 := Tryz.sizeOf165
  v28 := Tryz.zeroValue165
  t33 := Tryz.underlying192
  a33 := Tryz.isAgg192
  z33 := Tryz.sizeOf192
  v33 := Tryz.zeroValue192 }
def Tryz.sortedA_ren : Go.Shelf.Ren := ⟨fun | 6 => 113 | 8 => 147 | 9 => 69 | 11 => 175 | 13 => 119 | 12 => 118 | 23 => 158 | 24 => 159 | 14 => 149 | 15 => 150 | 16 => 151 | 17 => 152 | 18 => 153 | 19 => 154 | 20 => 155 | 21 => 156 | 22 => 157 | 25 => 176 | 26 => 177 | 27 => 178 | 28 => 179 | 29 => 180 | 30 => 181 | 31 => 190 | n => n, fun | 26 => 3 | 28 => 165 | 24 => 56 | 0 => 0 | 3 => 3 | 37 => 171 | 48 => 201 | 50 => 203 | 4 => 4 | 40 => 195 | 39 => 194 | 45 => 117 | 5 => 5 | 9 => 9 | 51 => 219 | 55 => 223 | 57 => 228 | 58 => 190 | 33 => 192 | n => n, fun | n => n⟩
theorem Tryz.sortedA : Go.Proofs.SlLaysZI.n6 Tryz.prog Tryz.sortedA_ren := {
  mixed := by kernel_rfl
  f6 := ⟨Tryz.f113.name, by decide, Tryz.func113.trans (congrArg some (by kernel_rfl))⟩
  f8 := ⟨Tryz.f147.name, by decide, Tryz.func147.trans (congrArg some (by kernel_rfl))⟩
  f11 := ⟨Tryz.f175.name, by decide, Tryz.func175.trans (congrArg some (by kernel_rfl))⟩
  t0 := Tryz.underlying0
  a0 := Tryz.isAgg0
  z0 := Tryz.sizeOf0
  v0 := Tryz.zeroValue0
  t24 := Tryz.underlying56
  a24 := Tryz.isAgg56
  z24 := Tryz.sizeOf56
  v24 := Tryz.zeroValue56
  t26 := Tryz.underlying3
  a26 := Tryz.isAgg3
  z26 := Tryz.sizeOf3
  v26 := Tryz.zeroValue3
  t28 := Tryz.underlying165
  a28 := Tryz.isAgg165
  z28 := Tryz.sizeOf165
  v28 := Tryz.zeroValue165
  i26 := by kernel_rfl }
def Tryz.sortA_ren : Go.Shelf.Ren := ⟨fun | 5 => 69 | 8 => 119 | 7 => 118 | 19 => 158 | 20 => 159 | 10 => 149 | 11 => 150 | 12 => 151 | 13 => 152 | 14 => 153 | 15 => 154 | 16 => 155 | 17 => 156 | 18 => 157 | 30 => 176 | 31 => 177 | 32 => 178 | 33 => 179 | 34 => 180 | 35 => 181 | 40 => 190 | n => n, fun | 23 => 56 | 25 => 3 | 3 => 3 | 32 => 171 | 22 => 56 | 0 => 0 | 44 => 201 | 46 => 203 | 4 => 4 | 36 => 195 | 35 => 194 | 41 => 117 | 5 => 5 | 9 => 9 | 53 => 219 | 57 => 223 | 63 => 228 | 64 => 190 | n => n, fun | n => n⟩
theorem Tryz.sortA : Go.Proofs.SlLaysM.n5 Tryz.prog Tryz.sortA_ren := {
  mixed := by kernel_rfl
  f5 := ⟨Tryz.f69.name, by decide, Tryz.func69.trans (congrArg some (by kernel_rfl))⟩
  f7 := ⟨Tryz.f118.name, by decide, Tryz.func118.trans (congrArg some (by kernel_rfl))⟩
  f8 := Tryz.func119.trans (congrArg some (by kernel_rfl))
  f10 := ⟨Tryz.f149.name, by decide, Tryz.func149.trans (congrArg some (by kernel_rfl))⟩
  f11 := ⟨Tryz.f150.name, by decide, Tryz.func150.trans (congrArg some (by kernel_rfl))⟩
  f12 := ⟨Tryz.f151.name, by decide, Tryz.func151.trans (congrArg some (by kernel_rfl))⟩
  f13 := ⟨Tryz.f152.name, by decide, Tryz.func152.trans (congrArg some (by kernel_rfl))⟩
  f14 := ⟨Tryz.f153.name, by decide, Tryz.func153.trans (congrArg some (by kernel_rfl))⟩
  f15 := ⟨Tryz.f154.name, by decide, Tryz.func154.trans (congrArg some (by kernel_rfl))⟩
  f16 := ⟨Tryz.f155.name, by decide, Tryz.func155.trans (congrArg some (by kernel_rfl))⟩
  f17 := ⟨Tryz.f156.name, by decide, Tryz.func156.trans (congrArg some (by kernel_rfl))⟩
  f18 := ⟨Tryz.f157.name, by decide, Tryz.func157.trans (congrArg some (by kernel_rfl))⟩
  f19 := Tryz.func158.trans (congrArg some (by kernel_rfl))
  f20 := Tryz.func159.trans (congrArg some (by kernel_rfl))
  f30 := ⟨Tryz.f176.name, by decide, Tryz.func176.trans (congrArg some (by kernel_rfl))⟩
  f31 := Tryz.func177.trans (congrArg some (by kernel_rfl))
  f32 := Tryz.func178.trans (congrArg some (by kernel_rfl))
  f33 := ⟨Tryz.f179.name, by decide, Tryz.func179.trans (congrArg some (by kernel_rfl))⟩
  f34 := ⟨Tryz.f180.name, by decide, Tryz.func180.trans (congrArg some (by kernel_rfl))⟩
  f35 := ⟨Tryz.f181.name, by decide, Tryz.func181.trans (congrArg some (by kernel_rfl))⟩
  f40 := ⟨Tryz.f190.name, by decide, Tryz.func190.trans (congrArg some (by kernel_rfl))⟩
  t0 := Tryz.underlying0
  a0 := Tryz.isAgg0
  z0 := Tryz.sizeOf0
  v0 := Tryz.zeroValue0
  t3 := Tryz.underlying3
  a3 := Tryz.isAgg3
  z3 := Tryz.sizeOf3
  v3 := Tryz.zeroValue3
  t4 := Tryz.underlying4
  a4 := Tryz.isAgg4
  z4 := Tryz.sizeOf4
  v4 := Tryz.zeroValue4
  t5 := Tryz.underlying5
  a5 := Tryz.isAgg5
  z5 := Tryz.sizeOf5
  v5 := Tryz.zeroValue5
  t9 := Tryz.underlying9
  a9 := Tryz.isAgg9
  z9 := Tryz.sizeOf9
  v9 := Tryz.zeroValue9
  t22 := Tryz.underlying56
  a22 := Tryz.isAgg56
  z22 := Tryz.sizeOf56
  v22 := Tryz.zeroValue56
  t23 := Tryz.underlying56
  a23 := Tryz.isAgg56
  z23 := Tryz.sizeOf56
  v23 := Tryz.zeroValue56
  t25 := Tryz.underlying3
  a25 := Tryz.isAgg3
  z25 := Tryz.sizeOf3
  v25 := Tryz.zeroValue3
  t32 := Tryz.underlying171
  a32 := Tryz.isAgg171
  z32 := Tryz.sizeOf171
  v32 := Tryz.zeroValue171
  t35 := Tryz.underlying194
  a35 := Tryz.isAgg194
  z35 := Tryz.sizeOf194
  v35 := Tryz.zeroValue194
  t36 := Tryz.underlying195
  a36 := Tryz.isAgg195
  z36 := Tryz.sizeOf195
  v36 := Tryz.zeroValue195
  t41 := Tryz.underlying117
  a41 := Tryz.isAgg117
  z41 := Tryz.sizeOf117
  v41 := Tryz.zeroValue117
  t44 := Tryz.underlying201
  a44 := Tryz.isAgg201
  z44 := Tryz.sizeOf201
  v44 := Tryz.zeroValue201
  t46 := Tryz.underlying203
  a46 := Tryz.isAgg203
  z46 := Tryz.sizeOf203
  v46 := Tryz.zeroValue203
  t53 := Tryz.underlying219
  a53 := Tryz.isAgg219
  z53 := Tryz.sizeOf219
  v53 := Tryz.zeroValue219
  t57 := Tryz.underlying223
  a57 := Tryz.isAgg223
  z57 := Tryz.sizeOf223
  v57 := Tryz.zeroValue223
  t63 := Tryz.underlying228
  a63 := Tryz.isAgg228
  z63 := Tryz.sizeOf228
  v63 := Tryz.zeroValue228
  t64 := Tryz.underlying190
  a64 := Tryz.isAgg190
  z64 := Tryz.sizeOf190
  v64 := Tryz.zeroValue190 }
end Go.Proofs

namespace Go.Proofs.YtdaohldmojpihaaGreatDoor.Mb
open Go.RowKit Go.Maps Go.ChangeMaps Go.MapKept Go.Proofs.YtdaohldmojpihaaGreatDoorW.PrintWords Go.Proofs.YtdaohldmojpihaaGreatDoorW.PrintLast Go.Proofs.YtdaohldmojpihaaGreatDoorW.PrintMore Go.Proofs.YtdaohldmojpihaaGreatDoorEv Go.Proofs.YtdaohldmojpihaaGreatDoorRx
set_option linter.unusedVariables false
set_option linter.unusedSimpArgs false
theorem law3 : Keyed Tryz.prog 3 := int_keyed Tryz.underlying3
theorem zero80 (w : World) : (zeroValue 120).run Tryz.prog w = .ok (.agg #[.int .i64 0, .int .i64 0]) w := by kernel_rfl
theorem wf_who {k : Int} (h : -9223372036854775808 ≤ k ∧ k ≤ 9223372036854775807) : (Lit.int .i64 k).wf = true := by
  have e1 : IntKind.i64.min = -9223372036854775808 := rfl
  have e2 : IntKind.i64.max = 9223372036854775807 := rfl
  simp [Lit.wf, e1, e2]
  omega
theorem nearE_inv2 {v : Value} {d : DataW Unit} {ps : List MemPlace} (h : nearE v = some (d, ps)) : ∃ a q : Int, v = .agg #[.int .i64 a, .int .i64 q] ∧ d = pr (a, q) := by
  obtain ⟨⟨a, q⟩, h1, h2⟩ := nearE_inv h
  exact ⟨a, q, h1, (Prod.mk.inj h2).1⟩
structure Tab (w : World) (t b : Nat) (f : FT) : Prop where
  blk : w.heap[t]? = some (.cells #[.map (some b)] 114 (0, 0))
  map : ∃ D, w.ownsMap Tryz.prog 3 nearE b 48 D ∧ Ab D f
theorem Tab.ne {w : World} {t b : Nat} {f : FT} (h : Tab w t b f) : t ≠ b := by
  obtain ⟨D, ⟨es, clock, hb, _⟩, _⟩ := h.map
  intro e
  have := h.blk
  rw [e, hb] at this
  cases this
theorem Tab.lt {w : World} {t b : Nat} {f : FT} (h : Tab w t b f) : t < w.heap.size ∧ b < w.heap.size := by
  obtain ⟨D, h1, _⟩ := h.map
  exact ⟨blk_lt h.blk, h1.lt⟩
theorem Tab.kept {w w1 : World} {t b : Nat} {f : FT} {row : Option Nat} (h : Tab w t b f) (hg : w.grownBy w1 row) (h1 : some t ≠ row) (h2 : some b ≠ row) : Tab w1 t b f := by
  obtain ⟨D, h3, h4⟩ := h.map
  exact ⟨(hg.block t h.lt.1 h1).trans h.blk, D, h3.kept hg h2, h4⟩
theorem Tab.below {w w1 : World} {t b : Nat} {f : FT} (h : Tab w t b f) (hb : Below w.heap.size w w1) : Tab w1 t b f := h.kept (grown_of_below hb none) (by simp) (by simp)
def atF (f : FT) (who : Int) : Option (Int × Int) := if 0 ≤ who ∧ who < 48 then f who.toNat else none
theorem ab_look {D : DataW Unit} {f : FT} (h : Ab D f) (who : Int) {a q : Int} (e : D.atKey (ky who) (pr (0, 0)) = pr (a, q)) : Maps.has D (ky who) = (atF f who).isSome ∧ (a, q) = (atF f who).getD (0, 0) := by
  unfold atF
  by_cases hr : 0 ≤ who ∧ who < 48
  · rw [if_pos hr]
    obtain ⟨k, rfl⟩ : ∃ k : Nat, who = k := ⟨who.toNat, by omega⟩
    rw [Int.toNat_natCast]
    refine ⟨h.has k (by omega), ?_⟩
    cases hf : f k with
    | none =>
      have := h.has k (by omega)
      rw [hf] at this
      rw [atKey_of_not_has this] at e
      exact (pr_inj e).symm
    | some v =>
      rw [h.at_ k v (by omega) hf] at e
      exact (pr_inj e).symm
  · rw [if_neg hr]
    have := h.out (k := who) (by omega)
    refine ⟨this, ?_⟩
    rw [atKey_of_not_has this] at e
    exact (pr_inj e).symm
set_option maxRecDepth 100000 in
set_option maxHeartbeats 4000000 in
theorem Age_calls (w : World) (t b : Nat) (f : FT) (h : Tab w t b f) (who : Int) (hw : -9223372036854775808 ≤ who ∧ who ≤ 9223372036854775807) :
    Calls Tryz.prog 67 #[.pointer (some ⟨t, 0, none⟩), .int .i64 who] w fun e w' => e = .returned (.tuple #[.int .i64 ((atF f who).getD (0, 0)).1, .bool (atF f who).isSome]) ∧ Hid (Below w.heap.size w w') := by
  have c0 : w.cell? ⟨t, 0, none⟩ = some (.map (some b)) := blk_cell h.blk 0
  obtain ⟨D, hown, hab⟩ := h.map
  have HO := Lib.hid hown
  have HA := Lib.hid hab
  have HW := Lib.hid (keyOf_int_mk Tryz.underlying3 (wf_who hw))
  have HB0 := Lib.hid (Below.refl w.heap.size w)
  clear h hown hab hw
  go_enter Tryz.func67, Tryz.ntmps67
  go_wp2_with (at_lookup; refine wpList_lookup_own_ok _ rfl _ _ 112 rfl 3 120 law3 Tryz.underlying112 nearE (zero80 _) (pr (0, 0)) [] rfl b 48 D rfl HO.out _ (ky who) rfl HW.out ?_; intro v ps hv; obtain ⟨a, q, hvv, hd⟩ := nearE_inv2 hv; subst hvv; have HL := Lib.hid (ab_look HA.out who hd); rw [HL.out.1]; clear hv hd)
  go_ret2
  refine ⟨?_, ?_⟩
  · exact (show Ending.returned (.tuple #[.int .i64 a, .bool (atF f who).isSome]) = Ending.returned (.tuple #[.int .i64 ((atF f who).getD (0, 0)).1, .bool (atF f who).isSome]) by rw [← HL.out.2])
  · exact Lib.hid (below_alloc (Below.refl _ _) _)
def dropF (f : FT) (who : Int) : FT := if 0 ≤ who ∧ who < 48 then upd f who.toNat none else f
theorem hOwnIsMap {w : World} {b n : Nat} {D : DataW Unit} (h : w.ownsMap Tryz.prog 3 nearE b n D) : IsMap D := h.isMap
def hearF (f : FT) (who : Int) : Int × FT :=
  if 0 ≤ who ∧ who < 48 then (match f who.toNat with
    | some v => (0, upd f who.toNat (some (v.1, 0)))
    | none => if (nums f).length = 16 then (7, f) else (0, upd f who.toNat (some (0, 0))))
  else (1, f)
set_option maxRecDepth 100000 in
set_option maxHeartbeats 4000000 in
theorem Hear_calls (w : World) (t b : Nat) (f : FT) (h : Tab w t b f) (who : Int) (r : Int) (f' : FT) (hr : hearF f who = (r, f')) :
    Calls Tryz.prog 68 #[.pointer (some ⟨t, 0, none⟩), .int .i64 who] w fun e w' => e = .returned (.int .i64 r) ∧ Hid (Tab w' t b f') ∧ Hid (w.grownBy w' (some b)) := by
  have c0 : w.cell? ⟨t, 0, none⟩ = some (.map (some b)) := blk_cell h.blk 0
  have HT := Lib.hid h
  obtain ⟨D, hown, hab⟩ := h.map
  have HO := Lib.hid hown
  have HA := Lib.hid hab
  have HG0 : Hid (w.grownBy w (some b)) := Lib.hid (World.grownBy.refl w _)
  have HRR := Lib.hid hr
  clear h hown hab hr
  by_cases h0 : who < 0
  · have d0 : decide (who < 0) = true := decide_eq_true h0
    have e := HRR.out
    unfold hearF at e
    rw [if_neg (by omega)] at e
    cases e
    clear h0 HRR
    go_enter Tryz.func68, Tryz.ntmps68
    go_wp2_with fail
    go_ret
    exact ⟨rfl, HT, HG0⟩
  have d0 : decide (who < 0) = false := decide_eq_false h0
  by_cases h1 : 48 ≤ who
  · have d1 : decide (48 ≤ who) = true := decide_eq_true h1
    have e := HRR.out
    unfold hearF at e
    rw [if_neg (by omega)] at e
    cases e
    clear h0 h1 HRR
    go_enter Tryz.func68, Tryz.ntmps68
    go_wp2_with fail
    go_ret
    exact ⟨rfl, HT, HG0⟩
  have d1 : decide (48 ≤ who) = false := decide_eq_false h1
  have HW := Lib.hid (keyOf_int_mk Tryz.underlying3 (wf_who (k := who) (by omega)))
  have HI : Hid (0 ≤ who ∧ who < 48) := Lib.hid (by omega)
  have HH : Hid (hearF f who = (match f who.toNat with
    | some v => (0, upd f who.toNat (some (v.1, 0)))
    | none => if (nums f).length = 16 then (7, f) else (0, upd f who.toNat (some (0, 0))))) := Lib.hid (by unfold hearF; rw [if_pos (by omega)])
  have HAT : Hid (atF f who = f who.toNat) := Lib.hid (by unfold atF; rw [if_pos (by omega)])
  clear h0 h1 HG0
  have HSZ := Lib.hid (size_ab HO.out Tryz.underlying3 HA.out)
  cases hf : f who.toNat with
  | some v =>
    have HF := Lib.hid hf
    have e := HH.out
    rw [HRR.out, hf] at e
    dsimp only at e
    obtain ⟨va, vq⟩ := v
    have e1 := (Prod.mk.inj e).1
    have e2 := (Prod.mk.inj e).2
    subst e1 e2
    clear hf e HH HRR
    go_enter Tryz.func68, Tryz.ntmps68
    go_wp2_with (at_lookup; refine wpList_lookup_own_ok _ rfl _ _ 112 rfl 3 120 law3 Tryz.underlying112 nearE (zero80 _) (pr (0, 0)) [] rfl b 48 D rfl HO.out _ (ky who) rfl HW.out ?_; intro v ps hv; obtain ⟨a, q, hvv, hd⟩ := nearE_inv2 hv; subst hvv; have HL := Lib.hid (ab_look HA.out who hd); have e3 := HL.out.2; have e4 := HL.out.1; rw [HAT.out, HF.out] at e3 e4; rw [e4]; cases e3; clear hv hd e4)
    have HB1 : Hid (Below w.heap.size w (w.alloc (.cells #[.int .i64 va, .int .i64 0] 120 (0, 0)))) := Lib.hid (below_alloc (Below.refl _ _) _)
    have HQ1 : Hid ((w.alloc (.cells #[.int .i64 va, .int .i64 0] 120 (0, 0))).heap[w.heap.size]? = some (.cells #[.int .i64 va, .int .i64 0] 120 (0, 0))) := Lib.hid (blk_new w _)
    generalize w.alloc (.cells #[.int .i64 va, .int .i64 0] 120 (0, 0)) = W at HB1 HQ1 ⊢
    have HB2 := Lib.hid (HB1.out.trans (pw_below_drewN (Below.refl _ W) 1))
    have HQ2 : Hid (W.drew.heap[w.heap.size]? = some (.cells #[.int .i64 va, .int .i64 0] 120 (0, 0))) := Lib.hid HQ1.out
    obtain ⟨w1, hrun, ho1, hg1⟩ := (World.ownsMap.kept HO.out (grown_of_below HB2.out none) (by simp)).store law3 Tryz.underlying112 (by unfold maxLen; omega) HW.out (nearE_mk (va, 0))
    have HT2 := Lib.hid (HT.out.below HB2.out)
    have HT1 := Lib.hid hg1.grown
    have HO1 := Lib.hid ho1
    have HRUN := Lib.hid hrun
    have HG2 : Hid (w.grownBy W.drew (some b)) := Lib.hid (World.grownBy.but (grown_of_below HB2.out none) (some b))
    have HQN : Hid (w.heap.size ≠ b) := Lib.hid (by have := HT.out.lt.2; omega)
    generalize w.heap.size = q at HQ1 HQ2 HQN HB1 HB2 ⊢
    clear hrun ho1 hg1 HB1 HQ1
    refine rl_start (fun W' => W'.cell? ⟨t, 0, none⟩ = some (.map (some b)) ∧ W'.heap[q]? = some (.cells #[.int .i64 va, .int .i64 0] 120 (0, 0))) 7 (by kernel_rfl) rfl ⟨blk_cell HT2.out.blk 0, HQ2.out⟩ (fun HS => ?_)
    repeat (first
      | ((with_reducible refine rlg_load (ty := 112) rfl ?_); refine rl_cell (ad := ⟨t, 0, none⟩) (v := .map (some b)) rfl (by kernel_rfl) (fun _ _ _ h => h) (by rfl) HS (by rfl) Tryz.underlying112 rfl (fun W hW => hW.1) ?_; (try simp only [Act.put, List.setIfInBounds_toArray, List.set_cons_zero, List.set_cons_succ, Nat.reduceAdd]))
      | ((with_reducible refine rlg_load (ty := 120) rfl ?_); refine rl_cells (ad := ⟨q, 0, none⟩) (cs := [.int .i64 va, .int .i64 0]) rfl (by kernel_rfl) (fun _ _ _ h => h) (by rfl) HS (by rfl) Tryz.underlying120 rfl (by kernel_rfl) (fun W hW j u hu => by rw [add_plain, blk_cell hW.2]; simpa using hu) ?_; (try simp only [Act.put, List.setIfInBounds_toArray, List.set_cons_zero, List.set_cons_succ, Nat.reduceAdd]))
      | (refine rl_map (b := b) (key := .int .i64 who) (val := .agg #[.int .i64 va, .int .i64 0]) rfl (by kernel_rfl) (by rfl) (by rfl) (by rfl) (by rfl) HRUN.out ⟨blk_cell ((HT1.out.block t HT2.out.lt.1 (fun e => HT.out.ne (Option.some.inj e))).trans HT2.out.blk) 0, (HT1.out.block q (blk_lt HQ2.out) (fun e => HQN.out (Option.some.inj e))).trans HQ2.out⟩ (fun _ => ?_); (try simp only [Act.put, List.setIfInBounds_toArray, List.set_cons_zero, List.set_cons_succ, Nat.reduceAdd]))
      | (refine rl_pureK (by kernel_rfl) (fun _ _ _ h => h) (by rfl) (fun W K hK => by go_simp; exact hK.out) ?_; (try simp only [Act.put, List.setIfInBounds_toArray, List.set_cons_zero, List.set_cons_succ, Nat.reduceAdd])))
    refine rl_done (by kernel_rfl) ?_
    go_wp2
    go_ret
    have hab2 := HA.out.put (hOwnIsMap HO.out) (k := who.toNat) (by have := HI.out; omega) (va, 0)
    rw [show ((who.toNat : Nat) : Int) = who by have := HI.out; omega] at hab2
    refine ⟨rfl, Lib.hid ⟨(HT1.out.block t HT2.out.lt.1 (fun e => HT.out.ne (Option.some.inj e))).trans HT2.out.blk, _, own48 HO1.out Tryz.underlying3 hab2, hab2⟩, Lib.hid ?_⟩
    exact HG2.out.andThen HT1.out (fun j e => .inr e)
  | none =>
    have c1 : ∀ o, (w.alloc o).cell? ⟨t, 0, none⟩ = some (.map (some b)) := fun o => pw_cell_below (below_alloc (Below.refl _ _) o) c0
    have HF := Lib.hid hf
    have e := HH.out
    rw [HRR.out, hf] at e
    dsimp only at e
    by_cases h16 : (nums f).length = 16
    · rw [if_pos h16] at e
      have e1 := (Prod.mk.inj e).1
      have e2 := (Prod.mk.inj e).2
      subst e1 e2
      have hlen : ∀ o, (Builtin.len_ #[112] 3 #[.map (some b)]).run Tryz.prog (w.alloc o) = .ok (.int .i64 16) (w.alloc o) := fun o => by
        rw [World.ownsMap.len (World.ownsMap.kept HO.out (World.grownBy_alloc w o none) (by simp)) Tryz.underlying112, HSZ.out, h16]
        rfl
      clear hf e HH HRR h16
      go_enter Tryz.func68, Tryz.ntmps68
      go_wp2_with (at_lookup; refine wpList_lookup_own_ok _ rfl _ _ 112 rfl 3 120 law3 Tryz.underlying112 nearE (zero80 _) (pr (0, 0)) [] rfl b 48 D rfl HO.out _ (ky who) rfl HW.out ?_; intro v ps hv; obtain ⟨a, q, hvv, hd⟩ := nearE_inv2 hv; subst hvv; have HL := Lib.hid (ab_look HA.out who hd); have e3 := HL.out.2; have e4 := HL.out.1; rw [HAT.out, HF.out] at e3 e4; rw [e4]; cases e3; clear hv hd e4)
      go_ret
      exact ⟨rfl, Lib.hid (HT.out.below (below_alloc (Below.refl _ _) _)), Lib.hid (World.grownBy_alloc w _ _)⟩
    · rw [if_neg h16] at e
      have e1 := (Prod.mk.inj e).1
      have e2 := (Prod.mk.inj e).2
      subst e1 e2
      obtain ⟨m, hm⟩ : ∃ m, (nums f).length = m := ⟨_, rfl⟩
      rw [hm] at h16 HSZ
      have hm16 : ((m : Int) == 16) = false := beq_eq_false_iff_ne.2 (by omega)
      have hm17 : (m == 16) = false := beq_eq_false_iff_ne.2 h16
      have hlen : ∀ o, (Builtin.len_ #[112] 3 #[.map (some b)]).run Tryz.prog (w.alloc o) = .ok (.int .i64 m) (w.alloc o) := fun o => by
        rw [World.ownsMap.len (World.ownsMap.kept HO.out (World.grownBy_alloc w o none) (by simp)) Tryz.underlying112, HSZ.out]
      clear hf e HH HRR h16 hm
      go_enter Tryz.func68, Tryz.ntmps68
      go_wp2_with (at_lookup; refine wpList_lookup_own_ok _ rfl _ _ 112 rfl 3 120 law3 Tryz.underlying112 nearE (zero80 _) (pr (0, 0)) [] rfl b 48 D rfl HO.out _ (ky who) rfl HW.out ?_; intro v ps hv; obtain ⟨a, q, hvv, hd⟩ := nearE_inv2 hv; subst hvv; have HL := Lib.hid (ab_look HA.out who hd); have e3 := HL.out.2; have e4 := HL.out.1; rw [HAT.out, HF.out] at e3 e4; rw [e4]; cases e3; clear hv hd e4)
      have HB1 : Hid (Below w.heap.size w (w.alloc (.cells #[.int .i64 0, .int .i64 0] 120 (0, 0)))) := Lib.hid (below_alloc (Below.refl _ _) _)
      have HQ1 : Hid ((w.alloc (.cells #[.int .i64 0, .int .i64 0] 120 (0, 0))).heap[w.heap.size]? = some (.cells #[.int .i64 0, .int .i64 0] 120 (0, 0))) := Lib.hid (blk_new w _)
      generalize w.alloc (.cells #[.int .i64 0, .int .i64 0] 120 (0, 0)) = W at HB1 HQ1 ⊢
      have HB2 := Lib.hid (HB1.out.trans (pw_below_drewN (Below.refl _ W) 1))
      have HQ2 : Hid (W.drew.heap[w.heap.size]? = some (.cells #[.int .i64 0, .int .i64 0] 120 (0, 0))) := Lib.hid HQ1.out
      obtain ⟨w1, hrun, ho1, hg1⟩ := (World.ownsMap.kept HO.out (grown_of_below HB2.out none) (by simp)).store law3 Tryz.underlying112 (by unfold maxLen; omega) HW.out (nearE_mk (0, 0))
      have HT2 := Lib.hid (HT.out.below HB2.out)
      have HT1 := Lib.hid hg1.grown
      have HO1 := Lib.hid ho1
      have HRUN := Lib.hid hrun
      have HG2 : Hid (w.grownBy W.drew (some b)) := Lib.hid (World.grownBy.but (grown_of_below HB2.out none) (some b))
      have HQN : Hid (w.heap.size ≠ b) := Lib.hid (by have := HT.out.lt.2; omega)
      generalize w.heap.size = q at HQ1 HQ2 HQN HB1 HB2 ⊢
      clear hrun ho1 hg1 HB1 HQ1
      refine rl_start (fun W' => W'.cell? ⟨t, 0, none⟩ = some (.map (some b)) ∧ W'.heap[q]? = some (.cells #[.int .i64 0, .int .i64 0] 120 (0, 0))) 7 (by kernel_rfl) rfl ⟨blk_cell HT2.out.blk 0, HQ2.out⟩ (fun HS => ?_)
      repeat (first
        | ((with_reducible refine rlg_load (ty := 112) rfl ?_); refine rl_cell (ad := ⟨t, 0, none⟩) (v := .map (some b)) rfl (by kernel_rfl) (fun _ _ _ h => h) (by rfl) HS (by rfl) Tryz.underlying112 rfl (fun W hW => hW.1) ?_; (try simp only [Act.put, List.setIfInBounds_toArray, List.set_cons_zero, List.set_cons_succ, Nat.reduceAdd]))
        | ((with_reducible refine rlg_load (ty := 120) rfl ?_); refine rl_cells (ad := ⟨q, 0, none⟩) (cs := [.int .i64 0, .int .i64 0]) rfl (by kernel_rfl) (fun _ _ _ h => h) (by rfl) HS (by rfl) Tryz.underlying120 rfl (by kernel_rfl) (fun W hW j u hu => by rw [add_plain, blk_cell hW.2]; simpa using hu) ?_; (try simp only [Act.put, List.setIfInBounds_toArray, List.set_cons_zero, List.set_cons_succ, Nat.reduceAdd]))
        | (refine rl_map (b := b) (key := .int .i64 who) (val := .agg #[.int .i64 0, .int .i64 0]) rfl (by kernel_rfl) (by rfl) (by rfl) (by rfl) (by rfl) HRUN.out ⟨blk_cell ((HT1.out.block t HT2.out.lt.1 (fun e => HT.out.ne (Option.some.inj e))).trans HT2.out.blk) 0, (HT1.out.block q (blk_lt HQ2.out) (fun e => HQN.out (Option.some.inj e))).trans HQ2.out⟩ (fun _ => ?_); (try simp only [Act.put, List.setIfInBounds_toArray, List.set_cons_zero, List.set_cons_succ, Nat.reduceAdd]))
        | (refine rl_pureK (by kernel_rfl) (fun _ _ _ h => h) (by rfl) (fun W K hK => by go_simp; exact hK.out) ?_; (try simp only [Act.put, List.setIfInBounds_toArray, List.set_cons_zero, List.set_cons_succ, Nat.reduceAdd])))
      refine rl_done (by kernel_rfl) ?_
      go_wp2
      go_ret
      have hab2 := HA.out.put (hOwnIsMap HO.out) (k := who.toNat) (by have := HI.out; omega) (0, 0)
      rw [show ((who.toNat : Nat) : Int) = who by have := HI.out; omega] at hab2
      refine ⟨rfl, Lib.hid ⟨(HT1.out.block t HT2.out.lt.1 (fun e => HT.out.ne (Option.some.inj e))).trans HT2.out.blk, _, own48 HO1.out Tryz.underlying3 hab2, hab2⟩, Lib.hid ?_⟩
      exact HG2.out.andThen HT1.out (fun j e => .inr e)
set_option maxRecDepth 100000 in
set_option maxHeartbeats 4000000 in
theorem New_calls (w : World) : Calls Tryz.prog 29 #[] w fun e w' => e = .returned (.pointer (some ⟨w.heap.size + 1, 0, none⟩)) ∧ Hid (Tab w' (w.heap.size + 1) w.heap.size (fun _ => none)) ∧ Hid (Below w.heap.size w w') := by
  have hmm := @run_makeMap Tryz.prog
  have HM : Hid ((w.alloc (.map #[] 0)).ownsMap Tryz.prog 3 nearE w.heap.size 0 (.map [])) := Lib.hid (World.ownsMap_made _ _ _ _)
  go_enter Tryz.func29, Tryz.ntmps29
  go_wp2
  go_ret
  refine ⟨by simp, Lib.hid ⟨?_, _, (HM.out.alloc _).mono (by omega), ab_empty⟩, Lib.hid (below_alloc (below_alloc (Below.refl _ _) _) _)⟩
  have := blk_new (w.alloc (.map #[] 0)) (.cells #[.map (some w.heap.size)] 114 (0, 0))
  simpa using this
end Go.Proofs.YtdaohldmojpihaaGreatDoor.Mb

namespace Go.Proofs.YtdaohldmojpihaaGreatDoor.Mb
open Go.RowKit Go.Maps Go.Sort Go.Shelf Go.ChangeMaps Go.MapKept Go.Proofs.YtdaohldmojpihaaGreatDoorW.PrintWords Go.Proofs.YtdaohldmojpihaaGreatDoorW.PrintLast Go.Proofs.YtdaohldmojpihaaGreatDoorW.PrintMore Go.Proofs.YtdaohldmojpihaaGreatDoorEv Go.Proofs.YtdaohldmojpihaaGreatDoorRx
set_option linter.unusedVariables false
set_option linter.unusedSimpArgs false
theorem sortsA (m : Nat) : AnyZI.SortsIn Tryz.prog Tryz.sortedA_ren Fence.wide m :=
  ⟨fun blk off cap ss W hH hblk hsz => callsIn_wide.2 (AnyM.slices_Sort_int Tryz.sortA blk off cap ss W hH hblk hsz),
   fun p cap W => callsIn_wide.2 (AnyM.slices_Sort_int_none Tryz.sortA p cap W)⟩
set_option maxHeartbeats 1000000 in
theorem Near_calls (w : World) (t b : Nat) (f : FT) (h : Tab w t b f) :
    Calls Tryz.prog 60 #[.pointer (some ⟨t, 0, none⟩)] w fun e w' => ∃ v, e = .returned v ∧ Hid (w'.ownsRow w.heap.size 3 1 v (nums f).length ((nums f).map (Value.int .i64))) ∧ Hid (Below w.heap.size w w') := by
  have c0 : w.cell? ⟨t, 0, none⟩ = some (.map (some b)) := blk_cell h.blk 0
  obtain ⟨D, hown, hab⟩ := h.map
  have hszD := size_ab hown Tryz.underlying3 hab
  have hle := nums_length f
  have hkp := keys_perm hown Tryz.underlying3 hab
  refine (callsIn_wide (n := 6)).1 ?_
  have hbl := hown.lt
  have hseq : SeqGives Fence.wide 2 Tryz.prog 148 #[.pointer (some ⟨w.heap.size, 0, none⟩)] encZ (fun ss => ss.Perm (intKeys D)) (Maps.size D) (w.alloc (.cells #[.map (some b)] 112)) :=
    AnyZI.keys_gives (ρ := Tryz.keysA_ren) { Tryz.keysA with } Fence.wide _ trivial rfl (by omega) w.heap.size b 48 D _ (by simp) (by simp) (by
      obtain ⟨es, clock, hb, Ft, hs, hD⟩ := hown
      exact ⟨es, clock, (Below.heap_alloc _ _ b hbl).trans hb, Ft, hs, hD⟩)
  have cK : ∀ mb W, CallsIn Fence.wide 5 Tryz.prog 114 #[.map mb] W fun e w' => e = .returned (.func (.func 148) #[] #[.pointer (some ⟨W.heap.size, 0, none⟩)]) ∧ w' = W.alloc (.cells #[.map mb] 112) := fun mb W => AnyZI.keys_in Tryz.keysA Fence.wide 5 trivial rfl mb W
  have cS := AnyZI.sorted_in Tryz.sortedA Fence.wide 5 trivial trivial trivial trivial rfl (by omega) (sortsA _) (enters_of Tryz.func69 (by kernel_rfl) rfl) 148 #[.pointer (some ⟨w.heap.size, 0, none⟩)] trivial (enters_of Tryz.func148 (by kernel_rfl) rfl) _ _ (by unfold maxLen; omega) (by omega) _ hseq
  change CallsIn _ _ Tryz.prog 113 _ _ _ at cS
  have hfK : Fence.wide.fn 114 := trivial
  have hfS : Fence.wide.fn 113 := trivial
  refine callsIn_of_wp Tryz.func60 rfl trivial ?_ rfl
  simp only [Tryz.ntmps60, List.size_toArray, List.length_cons, List.length_nil, Nat.reduceAdd, Nat.reduceSub, Array.replicate_succ, Array.replicate_zero, List.push_toArray, List.append_toArray, List.nil_append, List.cons_append]
  clear hszD hle
  have HKP := Lib.hid hkp
  clear hkp
  gi_wp2_with (first
    | (gi_at_call 114; refine (cK _ _).mono ?_; rintro e w' ⟨rfl, rfl⟩)
    | (gi_at_call 113; refine cS.mono ?_; rintro e w' ⟨v, ss, rfl, hS, hrow, hnil, hb⟩))
  go_ret
  have hp : ss.Perm (nums f) := hS.trans HKP.out.symm
  have e1 : ss.mergeSort (fun x y => decide (x ≤ y)) = nums f := nums_sorted f hp
  rw [e1, hp.length_eq] at hrow
  exact ⟨v, rfl, Lib.hid (ownsRow_base_a hrow (by simp)), Lib.hid (((Below.refl _ w).alloc (Nat.le_refl _) _).trans (hb.mono (by simp)))⟩
end Go.Proofs.YtdaohldmojpihaaGreatDoor.Mb
