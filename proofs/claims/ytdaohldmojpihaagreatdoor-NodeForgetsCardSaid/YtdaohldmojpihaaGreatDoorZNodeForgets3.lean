/- Texts Gb, Gc2, Gd, Ge, Gf, Gg, Gh, Gt, Gu, Gy, Gs, in one file, without what is not needed here. -/
import Derived.Lib.SliceRun
import Derived.Lib.SlicesS
import Derived.Test.YtdaohldmojpihaaGreatDoorZNodeForgets2
namespace Go.Proofs.YtdaohldmojpihaaGreatDoor.G
open Go.RowKit Go.Proofs.YtdaohldmojpihaaGreatDoorW.PrintWords Go.Proofs.YtdaohldmojpihaaGreatDoorW.PrintLast Go.Proofs.YtdaohldmojpihaaGreatDoorW.PrintMore Go.Proofs.YtdaohldmojpihaaGreatDoorPl
set_option linter.unusedVariables false
set_option linter.unusedSimpArgs false
theorem getD_cell {l : List Int} {i : Nat} (h : i < l.length) : rd l (i : Int) = l[i] := by
  unfold rd; simp [List.getD_eq_getElem?_getD, h]
theorem sadd_bd (l : List Int) : -2305843009213693952 ≤ sadd l ∧ sadd l ≤ 2305843009213693952 := by
  have : ∀ (l : List Int) (n : Int), -2305843009213693952 ≤ n → n ≤ 2305843009213693952 → -2305843009213693952 ≤ l.foldl (fun n x => clip (n + clip x)) n ∧ l.foldl (fun n x => clip (n + clip x)) n ≤ 2305843009213693952 := by
    intro l
    induction l with
    | nil => intro n h1 h2; exact ⟨h1, h2⟩
    | cons a l ih => intro n _ _; exact ih _ (clip_bd _).1 (clip_bd _).2
  exact this l 0 (by omega) (by omega)
theorem sadd_snoc (l : List Int) (x : Int) : sadd (l ++ [x]) = clip (sadd l + clip x) := by unfold sadd; rw [List.foldl_append]; rfl
theorem smax_snoc (l : List Int) (x : Int) : smax (l ++ [x]) = (if smax l < clip x then clip x else smax l) := by unfold smax; rw [List.foldl_append]; rfl
set_option maxHeartbeats 1000000 in
theorem Add_calls (A : Option Addr) (c : Nat) (l : List Int) (w : World) (hr : Kd.C (Kd.int .i64) w A l.length l) :
    Calls Tryz.prog 40 #[.slice A l.length c] w fun e w' => e = .returned (.int .i64 (sadd l)) ∧ w' = w := by
  have R := Lib.hid hr
  have hm : l.length ≤ 9223372036854775807 := hr.2.1
  obtain ⟨n, hn⟩ : ∃ n, l.length = n := ⟨_, rfl⟩
  have HN := Lib.hid hn
  rw [hn] at hm ⊢
  clear hr hn
  go_enter Tryz.func40, Tryz.ntmps40
  go_wp2
  go_loop [3, 8] (fun v3 v8 => ∃ k : Nat, k ≤ n ∧ v8 = .int .i64 k ∧ v3 = .int .i64 (sadd (l.take k))) (fun _ v8 => n - (intOf v8).toNat)
  case atStart => exact ⟨0, by omega, rfl, rfl⟩
  case round =>
    obtain ⟨k, hk, rfl, rfl⟩ := hrel
    have hb1 := (sadd_bd (l.take k)).1
    have hb2 := (sadd_bd (l.take k)).2
    by_cases hlt : k < n
    · have hkl : k < l.length := by rw [HN.out]; exact hlt
      have hk1 : (k : Int) < (n : Int) := by omega
      have hs1 : -9223372036854775808 ≤ (k : Int) + 1 := by omega
      have hs2 : (k : Int) + 1 ≤ 9223372036854775807 := by omega
      obtain ⟨ad, e, hc⟩ := Kd.at_int R.out (k : Int) (by omega) (by omega)
      cases e
      rw [getD_cell hkl, Int.toNat_natCast] at hc
      have HT := Lib.hid (show sadd (l.take (k + 1)) = clip (sadd (l.take k) + clip l[k]) by rw [List.take_succ_eq_append_getElem hkl, sadd_snoc])
      have hc1 := (clip_bd l[k]).1
      have hc2 := (clip_bd l[k]).2
      generalize sadd (l.take k) = s at hb1 hb2 HT ⊢
      generalize l[k] = x at hc HT hc1 hc2
      go_wp2_with (go_at_call 45; refine (Clip_calls _ _).mono ?_; rintro e w' ⟨rfl, rfl⟩)
      go_round
      case rel => exact ⟨k + 1, by omega, by simp, by rw [HT.out]⟩
      case measure => simp [intOf]; omega
    · obtain rfl : k = n := by omega
      have HT := Lib.hid (show sadd l = sadd (l.take k) by rw [List.take_of_length_le (by rw [HN.out]; exact Nat.le_refl _)])
      go_wp2
      go_ret
      exact ⟨(by rw [HT.out]; try rfl), rfl⟩
set_option maxHeartbeats 1000000 in
theorem Max_calls (A : Option Addr) (c : Nat) (l : List Int) (w : World) (hr : Kd.C (Kd.int .i64) w A l.length l) :
    Calls Tryz.prog 63 #[.slice A l.length c] w fun e w' => e = .returned (.int .i64 (smax l)) ∧ w' = w := by
  have R := Lib.hid hr
  have hm : l.length ≤ 9223372036854775807 := hr.2.1
  obtain ⟨n, hn⟩ : ∃ n, l.length = n := ⟨_, rfl⟩
  have HN := Lib.hid hn
  rw [hn] at hm ⊢
  clear hr hn
  go_enter Tryz.func63, Tryz.ntmps63
  go_wp2
  go_loop [3, 8] (fun v3 v8 => ∃ k : Nat, k ≤ n ∧ v8 = .int .i64 k ∧ v3 = .int .i64 (smax (l.take k))) (fun _ v8 => n - (intOf v8).toNat)
  case atStart => exact ⟨0, by omega, rfl, rfl⟩
  case round =>
    obtain ⟨k, hk, rfl, rfl⟩ := hrel
    by_cases hlt : k < n
    · have hkl : k < l.length := by rw [HN.out]; exact hlt
      have hk1 : (k : Int) < (n : Int) := by omega
      have hs1 : -9223372036854775808 ≤ (k : Int) + 1 := by omega
      have hs2 : (k : Int) + 1 ≤ 9223372036854775807 := by omega
      obtain ⟨ad, e, hc⟩ := Kd.at_int R.out (k : Int) (by omega) (by omega)
      cases e
      rw [getD_cell hkl, Int.toNat_natCast] at hc
      have HT := Lib.hid (show smax (l.take (k + 1)) = if smax (l.take k) < clip l[k] then clip l[k] else smax (l.take k) by rw [List.take_succ_eq_append_getElem hkl, smax_snoc])
      generalize smax (l.take k) = s at HT ⊢
      generalize l[k] = x at hc HT
      go_wp2_with (go_at_call 45; refine (Clip_calls _ _).mono ?_; rintro e w' ⟨rfl, rfl⟩)
      go_round
      case rel => exact ⟨k + 1, by omega, by simp, by rw [HT.out]; try (first | rfl | (congr 1; rw [Int.max_def]; split <;> split <;> omega))⟩
      case measure => simp [intOf]; omega
    · obtain rfl : k = n := by omega
      have HT := Lib.hid (show smax l = smax (l.take k) by rw [List.take_of_length_le (by rw [HN.out]; exact Nat.le_refl _)])
      go_wp2
      go_ret
      exact ⟨(by rw [HT.out]; try rfl), rfl⟩
theorem Add2 {x t : Nat} {a b : Int} {w : World} (h : w.heap[x]? = some (.cells #[.int .i64 a, .int .i64 b] t (0, 0))) : Calls Tryz.prog 40 #[.slice (some ⟨x, 0, none⟩) 2 2] w fun e w' => e = .returned (.int .i64 (sadd [a, b])) ∧ Below w.heap.size w w' :=
  (Add_calls (some ⟨x, 0, none⟩) 2 [a, b] w (Go.Proofs.YtdaohldmojpihaaGreatDoorKr.ints_of_block (l := [a, b]) h (by show _ ≤ _; simp))).mono fun e w' ⟨h1, h2⟩ => ⟨h1, h2 ▸ Below.refl _ _⟩
theorem Add3 {x t : Nat} {a b c : Int} {w : World} (h : w.heap[x]? = some (.cells #[.int .i64 a, .int .i64 b, .int .i64 c] t (0, 0))) : Calls Tryz.prog 40 #[.slice (some ⟨x, 0, none⟩) 3 3] w fun e w' => e = .returned (.int .i64 (sadd [a, b, c])) ∧ Below w.heap.size w w' :=
  (Add_calls (some ⟨x, 0, none⟩) 3 [a, b, c] w (Go.Proofs.YtdaohldmojpihaaGreatDoorKr.ints_of_block (l := [a, b, c]) h (by show _ ≤ _; simp))).mono fun e w' ⟨h1, h2⟩ => ⟨h1, h2 ▸ Below.refl _ _⟩
theorem Max2 {x t : Nat} {a b : Int} {w : World} (h : w.heap[x]? = some (.cells #[.int .i64 a, .int .i64 b] t (0, 0))) : Calls Tryz.prog 63 #[.slice (some ⟨x, 0, none⟩) 2 2] w fun e w' => e = .returned (.int .i64 (smax [a, b])) ∧ Below w.heap.size w w' :=
  (Max_calls (some ⟨x, 0, none⟩) 2 [a, b] w (Go.Proofs.YtdaohldmojpihaaGreatDoorKr.ints_of_block (l := [a, b]) h (by show _ ≤ _; simp))).mono fun e w' ⟨h1, h2⟩ => ⟨h1, h2 ▸ Below.refl _ _⟩
theorem ret_below {P : Program} {f : FuncId} {args : Array Value} {v : Value} {w : World} (h : Calls P f args w fun e w' => e = .returned v ∧ w' = w) : Calls P f args w fun e w' => e = .returned v ∧ Below w.heap.size w w' :=
  h.mono fun e w' ⟨h1, h2⟩ => ⟨h1, h2 ▸ Below.refl _ _⟩
end Go.Proofs.YtdaohldmojpihaaGreatDoor.G

namespace Go.Proofs.YtdaohldmojpihaaGreatDoor.G
open Go.RowKit Go.Proofs.YtdaohldmojpihaaGreatDoorW.PrintWords Go.Proofs.YtdaohldmojpihaaGreatDoorW.PrintLast Go.Proofs.YtdaohldmojpihaaGreatDoorW.PrintMore Go.Proofs.YtdaohldmojpihaaGreatDoorPl Go.Proofs.YtdaohldmojpihaaGreatDoorEm Go.Proofs.YtdaohldmojpihaaGreatDoorKr Go.Proofs.YtdaohldmojpihaaGreatDoorAy
set_option linter.unusedVariables false
set_option linter.unusedSimpArgs false
set_option maxHeartbeats 2000000 in
set_option maxRecDepth 100000 in
theorem Shift_calls (a b lo hi : Int) (w : World) : Calls Tryz.prog 76 #[.agg #[.int .i64 a, .int .i64 b], .int .i64 lo, .int .i64 hi] w fun e w' => e = .returned (.agg #[.int .i64 (sadd [a, lo]), .int .i64 (sadd [b, hi])]) ∧ Below w.heap.size w w' := by
  have H := Fr.start0 (M := fun _ => False) (A := fun _ => False) (w := w) (p := fun _ => True) (fun _ h => h.elim) (fun _ _ => trivial)
  go_enter Tryz.func76, Tryz.ntmps76
  go_wp2_with (first
    | ((with_reducible refine gate_dst (N := 3) rfl ?_); refine fr_box H rfl rfl rfl ?_; intro g3 w3 H1; replace H := H1; clear H1)
    | ((with_reducible refine gate_dst (N := 6) rfl ?_); refine fr_new H (N := 6) rfl rfl (cs := #[.int .i64 0, .int .i64 0]) (t := 25) ?hr ?_; (case hr => first | (go_simp; done) | (go_simp; rfl)); intro g6 w6 H1; replace H := H1; clear H1)
    | ((with_reducible refine gate_dst (N := 8) rfl ?_); refine fr_get H rfl rfl rfl (by repeat (first | exact At.head | apply At.tail)) Tryz.underlying3 rfl (by simp only [List.getElem?_toArray, List.getElem?_cons_succ, List.getElem?_cons_zero]; rfl) ?_)
    | ((with_reducible refine gate_dst (N := 13) rfl ?_); refine fr_get H rfl rfl rfl (by repeat (first | exact At.head | apply At.tail)) Tryz.underlying3 rfl (by simp only [List.getElem?_toArray, List.getElem?_cons_succ, List.getElem?_cons_zero]; rfl) ?_)
    | ((with_reducible refine gate_store (t := 25) (p := 6) rfl ?_); refine fr_put H rfl rfl rfl rfl rfl (by repeat (first | exact At.head | apply At.tail)) (by rfl) (by kernel_rfl) (by simp [Value.oneCell']) ?_; intro w6_ H1; replace H := H1; clear H1)
    | fail)
  refine ko_region1 H (by simp only [List.length_cons, List.length_nil, Nat.reduceAdd]; rfl) (g := g6) (by repeat (first | exact Take.head | apply Take.tail)) (by kernel_rfl) (by as_aux_lemma => kernel_rfl) (fun HR => ?_)
  repeat ((first
    | ((with_reducible refine kg_call (f := 40) rfl ?_); refine yC 40 Tryz.func40 (fun W hC hd => Add2 (by first | exact depH.hd hd (by kernel_rfl) | exact depH.hd (depH.tl hd) (by kernel_rfl) | exact depH.hd (depH.tl (depH.tl hd)) (by kernel_rfl))) ?_)
    | ((with_reducible refine kg_dst (N := 10) rfl ?_); refine yR ?_; intro x10)
    | ((with_reducible refine kg_dst (N := 15) rfl ?_); refine yR ?_; intro x15)
    | ((with_reducible refine kg_load rfl ?_); refine yL HR ?_)
    | ((with_reducible refine kg_store rfl ?_); refine yS ?_; (try simp only [Value.cells, List.length_cons, List.length_nil, Nat.reduceAdd]))
    | (refine yP ?_)
    | (refine yO ?_)); (try simp only [Act.put, lsA, lsZ, lsS, Nat.reduceAdd]))
  refine ko_end ?_
  intro w1 H1
  clear HR H
  have H := H1
  clear H1
  (try simp only [List.map_cons, List.map_nil, cv, List.cons_append, List.nil_append] at H)
  go_wp2
  trace_state
  refine bodyPost_ret (results_c rfl _ _ g6 25 _ (0, 0) _ rfl (H.of (by repeat (first | exact At.head | apply At.tail))) Tryz.underlying25 rfl (by kernel_rfl)) rfl ?_
  exact ⟨rfl, H.below⟩
structure Par where
  (N F D Be Rho De Ji Eps Mu Ho Pu Se : Int)
set_option maxHeartbeats 2000000 in
set_option maxRecDepth 100000 in
theorem Hold_calls (p : Par) (a b ticks : Int) (w : World) : Calls Tryz.prog 34 #[.agg #[.int .i64 p.N, .int .i64 p.F, .int .i64 p.D, .int .i64 p.Be, .int .i64 p.Rho, .int .i64 p.De, .int .i64 p.Ji, .int .i64 p.Eps, .int .i64 p.Mu, .int .i64 p.Ho, .int .i64 p.Pu, .int .i64 p.Se], .agg #[.int .i64 a, .int .i64 b], .int .i64 ticks] w fun e w' => e = .returned (.agg #[.int .i64 (sadd [a, ssub ticks p.Rho]), .int .i64 (sadd [b, sadd [ticks, p.Rho]])]) ∧ Below w.heap.size w w' := by
  have H := Fr.start0 (M := fun _ => False) (A := fun _ => False) (w := w) (p := fun _ => True) (fun _ h => h.elim) (fun _ _ => trivial)
  go_enter Tryz.func34, Tryz.ntmps34
  go_wp2_with (first
    | ((with_reducible refine gate_dst (N := 3) rfl ?_); refine fr_box H rfl rfl rfl ?_; intro g3 w3 H1; replace H := H1; clear H1)
    | ((with_reducible refine gate_dst (N := 4) rfl ?_); refine fr_box H rfl rfl rfl ?_; intro g4 w4 H1; replace H := H1; clear H1)
    | ((with_reducible refine gate_dst (N := 6) rfl ?_); refine fr_new H (N := 6) rfl rfl (cs := #[.int .i64 0, .int .i64 0]) (t := 25) ?hr ?_; (case hr => first | (go_simp; done) | (go_simp; rfl)); intro g6 w6 H1; replace H := H1; clear H1)
    | ((with_reducible refine gate_dst (N := 7) rfl ?_); refine fr_load H rfl rfl rfl (by repeat (first | exact At.head | apply At.tail)) Tryz.underlying25 rfl (by kernel_rfl) ?_)
    | ((with_reducible refine gate_dst (N := 10) rfl ?_); refine fr_get H rfl rfl rfl (by repeat (first | exact At.head | apply At.tail)) Tryz.underlying3 rfl (by simp only [List.getElem?_toArray, List.getElem?_cons_succ, List.getElem?_cons_zero]; rfl) ?_)
    | ((with_reducible refine gate_dst (N := 14) rfl ?_); refine fr_get H rfl rfl rfl (by repeat (first | exact At.head | apply At.tail)) Tryz.underlying3 rfl (by simp only [List.getElem?_toArray, List.getElem?_cons_succ, List.getElem?_cons_zero]; rfl) ?_)
    | ((with_reducible refine gate_store (t := 25) (p := 6) rfl ?_); refine fr_put H rfl rfl rfl rfl rfl (by repeat (first | exact At.head | apply At.tail)) (by rfl) (by kernel_rfl) (by simp [Value.oneCell']) ?_; intro w6_ H1; replace H := H1; clear H1)
    | fail)
  refine ko_region1 H (by simp only [List.length_cons, List.length_nil, Nat.reduceAdd]; rfl) (g := g6) (by repeat (first | exact Take.head | apply Take.tail)) (by kernel_rfl) (by as_aux_lemma => kernel_rfl) (fun HR => ?_)
  repeat ((first
    | ((with_reducible refine kg_call (f := 40) rfl ?_); refine yC 40 Tryz.func40 (fun W hC hd => Add2 (by first | exact depH.hd hd (by kernel_rfl) | exact depH.hd (depH.tl hd) (by kernel_rfl) | exact depH.hd (depH.tl (depH.tl hd)) (by kernel_rfl))) ?_)
    | ((with_reducible refine kg_call (f := 77) rfl ?_); refine yC 77 Tryz.func77 (fun W hC hd => ret_below (Sub_calls _ _ _)) ?_)
    | ((with_reducible refine kg_call (f := 76) rfl ?_); refine yC 76 Tryz.func76 (fun W hC hd => Shift_calls _ _ _ _ _) ?_)
    | ((with_reducible refine kg_dst (N := 15) rfl ?_); refine yR ?_; intro x15)
    | ((with_reducible refine kg_load rfl ?_); refine yL HR ?_)
    | ((with_reducible refine kg_store rfl ?_); refine yS ?_; (try simp only [Value.cells, List.length_cons, List.length_nil, Nat.reduceAdd]))
    | (refine yP ?_)
    | (refine yO ?_)); (try simp only [Act.put, lsA, lsZ, lsS, Nat.reduceAdd]))
  refine ko_end ?_
  intro w1 H1
  clear HR H
  have H := H1
  clear H1
  (try simp only [List.map_cons, List.map_nil, cv, List.cons_append, List.nil_append] at H)
  go_wp2
  refine bodyPost_ret (results_c rfl _ _ g6 25 _ (0, 0) _ rfl (H.of (by repeat (first | exact At.head | apply At.tail))) Tryz.underlying25 rfl (by kernel_rfl)) rfl ?_
  exact ⟨rfl, H.below⟩
end Go.Proofs.YtdaohldmojpihaaGreatDoor.G

namespace Go.Proofs.YtdaohldmojpihaaGreatDoor.G
open Go.RowKit Go.Proofs.YtdaohldmojpihaaGreatDoorW.PrintWords Go.Proofs.YtdaohldmojpihaaGreatDoorW.PrintLast Go.Proofs.YtdaohldmojpihaaGreatDoorW.PrintMore Go.Proofs.YtdaohldmojpihaaGreatDoorPl Go.Proofs.YtdaohldmojpihaaGreatDoorEm Go.Proofs.YtdaohldmojpihaaGreatDoorKr Go.Proofs.YtdaohldmojpihaaGreatDoorAy
set_option linter.unusedVariables false
set_option linter.unusedSimpArgs false
def wayP (p : Par) (a b age : Int) : Int × Int := (sadd [a, sadd [ssub p.De p.Ji, age, sneg p.Rho]], sadd [b, sadd [p.De, age, p.Rho]])
def hopP (p : Par) : Int := sadd [p.Ji, smul 2 p.Rho]
def gateP (p : Par) : Int := smul 2 (sadd [smul 2 p.Eps, hopP p])
def widthP (p : Par) (held hops : Int) : Int := sadd [gateP p, smul (smul 2 p.Rho) held, smul (sadd [hops, 1]) (hopP p)]
def farP (p : Par) (held : Int) : Int := smul 2 (widthP p (smax [held, p.Ho]) p.D)
set_option maxHeartbeats 4000000 in
set_option maxRecDepth 100000 in
theorem Way_calls (p : Par) (a b age : Int) (w : World) : Calls Tryz.prog 71 #[.agg #[.int .i64 p.N, .int .i64 p.F, .int .i64 p.D, .int .i64 p.Be, .int .i64 p.Rho, .int .i64 p.De, .int .i64 p.Ji, .int .i64 p.Eps, .int .i64 p.Mu, .int .i64 p.Ho, .int .i64 p.Pu, .int .i64 p.Se], .agg #[.int .i64 a, .int .i64 b], .int .i64 age] w fun e w' => e = .returned (.agg #[.int .i64 (wayP p a b age).1, .int .i64 (wayP p a b age).2]) ∧ Below w.heap.size w w' := by
  have H := Fr.start0 (M := fun _ => False) (A := fun _ => False) (w := w) (p := fun _ => True) (fun _ h => h.elim) (fun _ _ => trivial)
  go_enter Tryz.func71, Tryz.ntmps71
  go_wp2_with (first
    | ((with_reducible refine gate_dst (N := 3) rfl ?_); refine nB H ?_; intro g3 w3 H1; replace H := H1)
    | ((with_reducible refine gate_dst (N := 4) rfl ?_); refine nB H ?_; intro g4 w4 H1; replace H := H1)
    | ((with_reducible refine gate_dst (N := 6) rfl ?_); refine nA #[.int .i64 0, .int .i64 0] 25 H ?_; intro g6 w6 H1; replace H := H1)
    | fail)
  refine ko_region1 H (by simp only [List.length_cons, List.length_nil, Nat.reduceAdd]; rfl) (g := g6) (by repeat (first | exact Take.head | apply Take.tail)) (by kernel_rfl) (by as_aux_lemma => kernel_rfl) (fun HR => ?_)
  repeat ((first
    | ((with_reducible refine kg_call (f := 40) rfl ?_); refine yC 40 Tryz.func40 (fun W hC hd => Add2 (by first | exact depH.hd hd (by kernel_rfl) | exact depH.hd (depH.tl hd) (by kernel_rfl) | exact depH.hd (depH.tl (depH.tl hd)) (by kernel_rfl))) ?_)
    | ((with_reducible refine kg_call (f := 40) rfl ?_); refine yC 40 Tryz.func40 (fun W hC hd => Add3 (by first | exact depH.hd hd (by kernel_rfl) | exact depH.hd (depH.tl hd) (by kernel_rfl) | exact depH.hd (depH.tl (depH.tl hd)) (by kernel_rfl))) ?_)
    | ((with_reducible refine kg_call (f := 77) rfl ?_); refine yC 77 Tryz.func77 (fun W hC hd => ret_below (Sub_calls _ _ _)) ?_)
    | ((with_reducible refine kg_call (f := 123) rfl ?_); refine yC 123 Tryz.func123 (fun W hC hd => ret_below (Neg_calls _ _)) ?_)
    | ((with_reducible refine kg_call (f := 76) rfl ?_); refine yC 76 Tryz.func76 (fun W hC hd => Shift_calls _ _ _ _ _) ?_)
    | ((with_reducible refine kg_dst (N := 17) rfl ?_); refine yR ?_; intro x17)
    | ((with_reducible refine kg_dst (N := 24) rfl ?_); refine yR ?_; intro x24)
    | ((with_reducible refine kg_load rfl ?_); refine yL HR ?_)
    | ((with_reducible refine kg_store rfl ?_); refine yS ?_; (try simp only [Value.cells, List.length_cons, List.length_nil, Nat.reduceAdd]))
    | (refine yP ?_)
    | (refine yO ?_)); (try simp only [Act.put, lsA, lsZ, lsS, Nat.reduceAdd]))
  refine ko_end ?_
  intro w1 H1
  clear HR H
  have H := H1
  clear H1
  (try simp only [List.map_cons, List.map_nil, cv, List.cons_append, List.nil_append] at H)
  go_wp2
  refine bodyPost_ret (results_c rfl _ _ g6 25 _ (0, 0) _ rfl (H.of (by repeat (first | exact At.head | apply At.tail))) Tryz.underlying25 rfl (by kernel_rfl)) rfl ?_
  exact ⟨rfl, H.below⟩
set_option maxHeartbeats 4000000 in
set_option maxRecDepth 100000 in
theorem Hop_calls (p : Par) (w : World) : Calls Tryz.prog 14 #[.agg #[.int .i64 p.N, .int .i64 p.F, .int .i64 p.D, .int .i64 p.Be, .int .i64 p.Rho, .int .i64 p.De, .int .i64 p.Ji, .int .i64 p.Eps, .int .i64 p.Mu, .int .i64 p.Ho, .int .i64 p.Pu, .int .i64 p.Se]] w fun e w' => e = .returned (.int .i64 (hopP p)) ∧ Below w.heap.size w w' := by
  have H := Fr.start0 (M := fun _ => False) (A := fun _ => False) (w := w) (p := fun _ => True) (fun _ h => h.elim) (fun _ _ => trivial)
  go_enter Tryz.func14, Tryz.ntmps14
  go_wp2_with (first
    | ((with_reducible refine gate_dst (N := 1) rfl ?_); refine nB H ?_; intro g1 w1 H1; replace H := H1)
    | fail)
  refine ko_region0 H (by kernel_rfl) (by as_aux_lemma => kernel_rfl) (fun HR => ?_)
  repeat ((first
    | ((with_reducible refine kg_call (f := 40) rfl ?_); refine yC 40 Tryz.func40 (fun W hC hd => Add2 (by first | exact depH.hd hd (by kernel_rfl) | exact depH.hd (depH.tl hd) (by kernel_rfl) | exact depH.hd (depH.tl (depH.tl hd)) (by kernel_rfl))) ?_)
    | ((with_reducible refine kg_call (f := 40) rfl ?_); refine yC 40 Tryz.func40 (fun W hC hd => Add3 (by first | exact depH.hd hd (by kernel_rfl) | exact depH.hd (depH.tl hd) (by kernel_rfl) | exact depH.hd (depH.tl (depH.tl hd)) (by kernel_rfl))) ?_)
    | ((with_reducible refine kg_call (f := 41) rfl ?_); refine yC 41 Tryz.func41 (fun W hC hd => ret_below (Mul_calls _ _ _)) ?_)
    | ((with_reducible refine kg_dst (N := 8) rfl ?_); refine yR ?_; intro x8)
    | ((with_reducible refine kg_load rfl ?_); refine yL HR ?_)
    | (refine yP ?_)
    | (refine yO ?_)); (try simp only [Act.put, lsA, lsZ, lsS, Nat.reduceAdd]))
  refine ko_end ?_
  intro w1 H1
  clear HR H
  have H := H1
  clear H1
  (try simp only [List.map_cons, List.map_nil, cv, List.cons_append, List.nil_append] at H)
  go_wp2
  go_ret
  exact ⟨rfl, H.below⟩
set_option maxHeartbeats 4000000 in
set_option maxRecDepth 100000 in
theorem Gate_calls (p : Par) (w : World) : Calls Tryz.prog 116 #[.agg #[.int .i64 p.N, .int .i64 p.F, .int .i64 p.D, .int .i64 p.Be, .int .i64 p.Rho, .int .i64 p.De, .int .i64 p.Ji, .int .i64 p.Eps, .int .i64 p.Mu, .int .i64 p.Ho, .int .i64 p.Pu, .int .i64 p.Se]] w fun e w' => e = .returned (.int .i64 (gateP p)) ∧ Below w.heap.size w w' := by
  have H := Fr.start0 (M := fun _ => False) (A := fun _ => False) (w := w) (p := fun _ => True) (fun _ h => h.elim) (fun _ _ => trivial)
  go_enter Tryz.func116, Tryz.ntmps116
  go_wp2_with (first
    | ((with_reducible refine gate_dst (N := 1) rfl ?_); refine nB H ?_; intro g1 w1 H1; replace H := H1)
    | fail)
  refine ko_region0 H (by kernel_rfl) (by as_aux_lemma => kernel_rfl) (fun HR => ?_)
  repeat ((first
    | ((with_reducible refine kg_call (f := 40) rfl ?_); refine yC 40 Tryz.func40 (fun W hC hd => Add2 (by first | exact depH.hd hd (by kernel_rfl) | exact depH.hd (depH.tl hd) (by kernel_rfl) | exact depH.hd (depH.tl (depH.tl hd)) (by kernel_rfl))) ?_)
    | ((with_reducible refine kg_call (f := 40) rfl ?_); refine yC 40 Tryz.func40 (fun W hC hd => Add3 (by first | exact depH.hd hd (by kernel_rfl) | exact depH.hd (depH.tl hd) (by kernel_rfl) | exact depH.hd (depH.tl (depH.tl hd)) (by kernel_rfl))) ?_)
    | ((with_reducible refine kg_call (f := 41) rfl ?_); refine yC 41 Tryz.func41 (fun W hC hd => ret_below (Mul_calls _ _ _)) ?_)
    | ((with_reducible refine kg_call (f := 14) rfl ?_); refine yC 14 Tryz.func14 (fun W hC hd => Hop_calls p _) ?_)
    | ((with_reducible refine kg_dst (N := 8) rfl ?_); refine yR ?_; intro x8)
    | ((with_reducible refine kg_load rfl ?_); refine yL HR ?_)
    | (refine yP ?_)
    | (refine yO ?_)); (try simp only [Act.put, lsA, lsZ, lsS, Nat.reduceAdd]))
  refine ko_end ?_
  intro w1 H1
  clear HR H
  have H := H1
  clear H1
  (try simp only [List.map_cons, List.map_nil, cv, List.cons_append, List.nil_append] at H)
  go_wp2
  go_ret
  exact ⟨rfl, H.below⟩
set_option maxHeartbeats 4000000 in
set_option maxRecDepth 100000 in
theorem Width_calls (p : Par) (held hops : Int) (w : World) : Calls Tryz.prog 62 #[.agg #[.int .i64 p.N, .int .i64 p.F, .int .i64 p.D, .int .i64 p.Be, .int .i64 p.Rho, .int .i64 p.De, .int .i64 p.Ji, .int .i64 p.Eps, .int .i64 p.Mu, .int .i64 p.Ho, .int .i64 p.Pu, .int .i64 p.Se], .int .i64 held, .int .i64 hops] w fun e w' => e = .returned (.int .i64 (widthP p held hops)) ∧ Below w.heap.size w w' := by
  have H := Fr.start0 (M := fun _ => False) (A := fun _ => False) (w := w) (p := fun _ => True) (fun _ h => h.elim) (fun _ _ => trivial)
  go_enter Tryz.func62, Tryz.ntmps62
  go_wp2_with (first
    | ((with_reducible refine gate_dst (N := 3) rfl ?_); refine nB H ?_; intro g3 w3 H1; replace H := H1)
    | fail)
  refine ko_region0 H (by kernel_rfl) (by as_aux_lemma => kernel_rfl) (fun HR => ?_)
  repeat ((first
    | ((with_reducible refine kg_call (f := 40) rfl ?_); refine yC 40 Tryz.func40 (fun W hC hd => Add2 (by first | exact depH.hd hd (by kernel_rfl) | exact depH.hd (depH.tl hd) (by kernel_rfl) | exact depH.hd (depH.tl (depH.tl hd)) (by kernel_rfl))) ?_)
    | ((with_reducible refine kg_call (f := 40) rfl ?_); refine yC 40 Tryz.func40 (fun W hC hd => Add3 (by first | exact depH.hd hd (by kernel_rfl) | exact depH.hd (depH.tl hd) (by kernel_rfl) | exact depH.hd (depH.tl (depH.tl hd)) (by kernel_rfl))) ?_)
    | ((with_reducible refine kg_call (f := 41) rfl ?_); refine yC 41 Tryz.func41 (fun W hC hd => ret_below (Mul_calls _ _ _)) ?_)
    | ((with_reducible refine kg_call (f := 14) rfl ?_); refine yC 14 Tryz.func14 (fun W hC hd => Hop_calls p _) ?_)
    | ((with_reducible refine kg_call (f := 116) rfl ?_); refine yC 116 Tryz.func116 (fun W hC hd => Gate_calls p _) ?_)
    | ((with_reducible refine kg_dst (N := 15) rfl ?_); refine yR ?_; intro x15)
    | ((with_reducible refine kg_dst (N := 20) rfl ?_); refine yR ?_; intro x20)
    | ((with_reducible refine kg_load rfl ?_); refine yL HR ?_)
    | (refine yP ?_)
    | (refine yO ?_)); (try simp only [Act.put, lsA, lsZ, lsS, Nat.reduceAdd]))
  refine ko_end ?_
  intro w1 H1
  clear HR H
  have H := H1
  clear H1
  (try simp only [List.map_cons, List.map_nil, cv, List.cons_append, List.nil_append] at H)
  go_wp2
  go_ret
  exact ⟨rfl, H.below⟩
set_option maxHeartbeats 4000000 in
set_option maxRecDepth 100000 in
theorem Far_calls (p : Par) (held : Int) (w : World) : Calls Tryz.prog 25 #[.agg #[.int .i64 p.N, .int .i64 p.F, .int .i64 p.D, .int .i64 p.Be, .int .i64 p.Rho, .int .i64 p.De, .int .i64 p.Ji, .int .i64 p.Eps, .int .i64 p.Mu, .int .i64 p.Ho, .int .i64 p.Pu, .int .i64 p.Se], .int .i64 held] w fun e w' => e = .returned (.int .i64 (farP p held)) ∧ Below w.heap.size w w' := by
  have H := Fr.start0 (M := fun _ => False) (A := fun _ => False) (w := w) (p := fun _ => True) (fun _ h => h.elim) (fun _ _ => trivial)
  go_enter Tryz.func25, Tryz.ntmps25
  go_wp2_with (first
    | ((with_reducible refine gate_dst (N := 2) rfl ?_); refine nB H ?_; intro g2 w2 H1; replace H := H1)
    | fail)
  refine ko_region0 H (by kernel_rfl) (by as_aux_lemma => kernel_rfl) (fun HR => ?_)
  repeat ((first
    | ((with_reducible refine kg_call (f := 41) rfl ?_); refine yC 41 Tryz.func41 (fun W hC hd => ret_below (Mul_calls _ _ _)) ?_)
    | ((with_reducible refine kg_call (f := 62) rfl ?_); refine yC 62 Tryz.func62 (fun W hC hd => Width_calls p _ _ _) ?_)
    | ((with_reducible refine kg_call (f := 63) rfl ?_); refine yC 63 Tryz.func63 (fun W hC hd => Max2 (by first | exact depH.hd hd (by kernel_rfl) | exact depH.hd (depH.tl hd) (by kernel_rfl))) ?_)
    | ((with_reducible refine kg_dst (N := 9) rfl ?_); refine yR ?_; intro x9)
    | ((with_reducible refine kg_load rfl ?_); refine yL HR ?_)
    | (refine yP ?_)
    | (refine yO ?_)); (try simp only [Act.put, lsA, lsZ, lsS, Nat.reduceAdd]))
  refine ko_end ?_
  intro w1 H1
  clear HR H
  have H := H1
  clear H1
  (try simp only [List.map_cons, List.map_nil, cv, List.cons_append, List.nil_append] at H)
  go_wp2
  go_ret
  exact ⟨rfl, H.below⟩
end Go.Proofs.YtdaohldmojpihaaGreatDoor.G

namespace Go.Proofs.YtdaohldmojpihaaGreatDoor.G
open Go.RowKit Go.Proofs.YtdaohldmojpihaaGreatDoorW.PrintWords Go.Proofs.YtdaohldmojpihaaGreatDoorW.PrintLast Go.Proofs.YtdaohldmojpihaaGreatDoorW.PrintMore Go.Proofs.YtdaohldmojpihaaGreatDoorPl Go.Proofs.YtdaohldmojpihaaGreatDoorEm Go.Proofs.YtdaohldmojpihaaGreatDoorKr Go.Proofs.YtdaohldmojpihaaGreatDoorAy
set_option linter.unusedVariables false
set_option linter.unusedSimpArgs false
set_option maxHeartbeats 1000000 in
theorem SpanOf_calls (a b : Int) (w : World) : Calls Tryz.prog 42 #[.int .i64 a, .int .i64 b] w fun e w' => e = .returned (.agg #[.int .i64 (clip a), .int .i64 (clip b)]) ∧ Below w.heap.size w w' := by
  have H := Fr.start0 (M := fun _ => False) (A := fun _ => False) (w := w) (p := fun _ => True) (fun _ h => h.elim) (fun _ _ => trivial)
  go_enter Tryz.func42, Tryz.ntmps42
  go_wp2_with (first
    | ((with_reducible refine gate_dst (N := 4) rfl ?_); refine nA #[.int .i64 0, .int .i64 0] 25 H ?_; intro g4 w4 H1; replace H := H1)
    | ((with_reducible refine gS rfl ?_); refine xS H ?_; intro w_ H1; replace H := H1)
    | (go_at_call 45; (with_reducible refine (Clip_calls _ _).mono ?_); rintro e w' ⟨rfl, rfl⟩)
    | fail)
  refine bodyPost_ret (results_c rfl _ _ g4 25 _ (0, 0) _ rfl (H.of (by repeat (first | exact At.head | apply At.tail))) Tryz.underlying25 rfl (by kernel_rfl)) rfl ?_
  exact ⟨rfl, H.below⟩
set_option maxHeartbeats 1000000 in
theorem Empty_calls (a b : Int) (w : World) : Calls Tryz.prog 43 #[.agg #[.int .i64 a, .int .i64 b]] w fun e w' => e = .returned (.bool (decide (b < a))) ∧ Below w.heap.size w w' := by
  have H := Fr.start0 (M := fun _ => False) (A := fun _ => False) (w := w) (p := fun _ => True) (fun _ h => h.elim) (fun _ _ => trivial)
  go_enter Tryz.func43, Tryz.ntmps43
  go_wp2_with (first
    | ((with_reducible refine gate_dst (N := 1) rfl ?_); refine nB H ?_; intro g1 w1 H1; replace H := H1)
    | ((with_reducible refine gL rfl ?_); refine xL H ?_)
    | fail)
  go_ret
  exact ⟨rfl, H.below⟩
theorem All_calls (w : World) : Calls Tryz.prog 44 #[] w fun e w' => e = .returned (.agg #[.int .i64 (-2305843009213693952), .int .i64 2305843009213693952]) ∧ Below w.heap.size w w' := by
  have H := Fr.start0 (M := fun _ => False) (A := fun _ => False) (w := w) (p := fun _ => True) (fun _ h => h.elim) (fun _ _ => trivial)
  go_enter Tryz.func44, Tryz.ntmps44
  go_wp2_with (first
    | ((with_reducible refine gate_dst (N := 0) rfl ?_); refine nA #[.int .i64 0, .int .i64 0] 25 H ?_; intro g0 w0 H1; replace H := H1)
    | ((with_reducible refine gS rfl ?_); refine xS H ?_; intro w_ H1; replace H := H1)
    | fail)
  refine bodyPost_ret (results_c rfl _ _ g0 25 _ (0, 0) _ rfl (H.of (by repeat (first | exact At.head | apply At.tail))) Tryz.underlying25 rfl (by kernel_rfl)) rfl ?_
  exact ⟨rfl, H.below⟩
def midP (a b : Int) : Int := (clip a + clip b) / 2
set_option maxHeartbeats 1000000 in
set_option maxRecDepth 100000 in
theorem Mid_calls (a b : Int) (w : World) : Calls Tryz.prog 78 #[.agg #[.int .i64 a, .int .i64 b]] w fun e w' => e = .returned (.int .i64 (midP a b)) ∧ Below w.heap.size w w' := by
  have h1 := (clip_bd a).1
  have h2 := (clip_bd a).2
  have h3 := (clip_bd b).1
  have h4 := (clip_bd b).2
  have HM := Lib.hid (show midP a b = (clip a + clip b) / 2 from rfl)
  have H := Fr.start0 (M := fun _ => False) (A := fun _ => False) (w := w) (p := fun _ => True) (fun _ h => h.elim) (fun _ _ => trivial)
  go_enter Tryz.func78, Tryz.ntmps78
  go_wp2_with (first
    | ((with_reducible refine gate_dst (N := 1) rfl ?_); refine nB H ?_; intro g1 w1 H1; replace H := H1)
    | fail)
  refine ko_region0 H (by kernel_rfl) (by as_aux_lemma => kernel_rfl) (fun HR => ?_)
  repeat ((first
    | ((with_reducible refine kg_call (f := 45) rfl ?_); refine yC 45 Tryz.func45 (fun W hC hd => ret_below (Clip_calls _ _)) ?_)
    | ((with_reducible refine kg_load rfl ?_); refine yL HR ?_)
    | (refine yP ?_)
    | (refine yO ?_)); (try simp only [Act.put, lsA, lsZ, lsS, Nat.reduceAdd]))
  refine ko_end ?_
  intro w1 H1
  clear HR H
  have H := H1
  clear H1
  (try simp only [List.map_cons, List.map_nil, cv, List.cons_append, List.nil_append] at H)
  have e1 : IntKind.i64.wrap (clip a + clip b) = clip a + clip b := by rw [IntKind.wrap_i64]; omega
  go_wp2
  go_ret
  refine ⟨?_, H.below⟩
  rw [HM.out]
  try rfl
end Go.Proofs.YtdaohldmojpihaaGreatDoor.G

namespace Go.Proofs.YtdaohldmojpihaaGreatDoor.G
open Go.RowKit Go.Proofs.YtdaohldmojpihaaGreatDoorW.PrintWords Go.Proofs.YtdaohldmojpihaaGreatDoorW.PrintLast Go.Proofs.YtdaohldmojpihaaGreatDoorW.PrintMore Go.Proofs.YtdaohldmojpihaaGreatDoorPl Go.Proofs.YtdaohldmojpihaaGreatDoorEm Go.Proofs.YtdaohldmojpihaaGreatDoorKr Go.Proofs.YtdaohldmojpihaaGreatDoorAy
set_option linter.unusedVariables false
set_option linter.unusedSimpArgs false
def rightP (t n : Int) : Bool := decide (-2305843009213693952 ≤ t) && decide (t ≤ 2305843009213693952) && decide (0 ≤ n) && decide (n ≤ 1073741824)
set_option maxHeartbeats 1000000 in
set_option maxRecDepth 100000 in
theorem Right_calls (t n : Int) (w : World) : Calls Tryz.prog 49 #[.agg #[.int .i64 t, .int .i64 n]] w fun e w' => e = .returned (.bool (rightP t n)) ∧ Below w.heap.size w w' := by
  obtain ⟨b1, h1⟩ : ∃ b, decide (-2305843009213693952 ≤ t) = b := ⟨_, rfl⟩
  obtain ⟨b2, h2⟩ : ∃ b, decide (t ≤ 2305843009213693952) = b := ⟨_, rfl⟩
  obtain ⟨b3, h3⟩ : ∃ b, decide (0 ≤ n) = b := ⟨_, rfl⟩
  obtain ⟨b4, h4⟩ : ∃ b, decide (n ≤ 1073741824) = b := ⟨_, rfl⟩
  cases b1 with
  | false =>
    have HR := Lib.hid (show rightP t n = false by unfold rightP; simp only [h1, h2, h3, h4]; rfl)
    have H := Fr.start0 (M := fun _ => False) (A := fun _ => False) (w := w) (p := fun _ => True) (fun _ h => h.elim) (fun _ _ => trivial)
    go_enter Tryz.func49, Tryz.ntmps49
    go_wp2_with (first
      | ((with_reducible refine gate_dst (N := 1) rfl ?_); refine nB H ?_; intro g1 w1 H1; replace H := H1)
      | ((with_reducible refine gL rfl ?_); (try (refine gate_guard (by rfl) ?_; dsimp only)); refine xL H ?_)
      | fail)
    go_ret
    exact ⟨(by rw [HR.out]; try rfl), H.below⟩
  | true =>
    cases b2 with
    | false =>
      have HR := Lib.hid (show rightP t n = false by unfold rightP; simp only [h1, h2, h3, h4]; rfl)
      have H := Fr.start0 (M := fun _ => False) (A := fun _ => False) (w := w) (p := fun _ => True) (fun _ h => h.elim) (fun _ _ => trivial)
      go_enter Tryz.func49, Tryz.ntmps49
      go_wp2_with (first
        | ((with_reducible refine gate_dst (N := 1) rfl ?_); refine nB H ?_; intro g1 w1 H1; replace H := H1)
        | ((with_reducible refine gL rfl ?_); (try (refine gate_guard (by rfl) ?_; dsimp only)); refine xL H ?_)
        | fail)
      go_ret
      exact ⟨(by rw [HR.out]; try rfl), H.below⟩
    | true =>
      cases b3 with
      | false =>
        have HR := Lib.hid (show rightP t n = false by unfold rightP; simp only [h1, h2, h3, h4]; rfl)
        have H := Fr.start0 (M := fun _ => False) (A := fun _ => False) (w := w) (p := fun _ => True) (fun _ h => h.elim) (fun _ _ => trivial)
        go_enter Tryz.func49, Tryz.ntmps49
        go_wp2_with (first
          | ((with_reducible refine gate_dst (N := 1) rfl ?_); refine nB H ?_; intro g1 w1 H1; replace H := H1)
          | ((with_reducible refine gL rfl ?_); (try (refine gate_guard (by rfl) ?_; dsimp only)); refine xL H ?_)
          | fail)
        go_ret
        exact ⟨(by rw [HR.out]; try rfl), H.below⟩
      | true =>
        cases b4 with
        | false =>
          have HR := Lib.hid (show rightP t n = false by unfold rightP; simp only [h1, h2, h3, h4]; rfl)
          have H := Fr.start0 (M := fun _ => False) (A := fun _ => False) (w := w) (p := fun _ => True) (fun _ h => h.elim) (fun _ _ => trivial)
          go_enter Tryz.func49, Tryz.ntmps49
          go_wp2_with (first
            | ((with_reducible refine gate_dst (N := 1) rfl ?_); refine nB H ?_; intro g1 w1 H1; replace H := H1)
            | ((with_reducible refine gL rfl ?_); (try (refine gate_guard (by rfl) ?_; dsimp only)); refine xL H ?_)
            | fail)
          go_ret
          exact ⟨(by rw [HR.out]; try rfl), H.below⟩
        | true =>
          have HR := Lib.hid (show rightP t n = true by unfold rightP; simp only [h1, h2, h3, h4]; rfl)
          have H := Fr.start0 (M := fun _ => False) (A := fun _ => False) (w := w) (p := fun _ => True) (fun _ h => h.elim) (fun _ _ => trivial)
          go_enter Tryz.func49, Tryz.ntmps49
          go_wp2_with (first
            | ((with_reducible refine gate_dst (N := 1) rfl ?_); refine nB H ?_; intro g1 w1 H1; replace H := H1)
            | ((with_reducible refine gL rfl ?_); (try (refine gate_guard (by rfl) ?_; dsimp only)); refine xL H ?_)
            | fail)
          go_ret
          exact ⟨(by rw [HR.out]; try rfl), H.below⟩
def nextP (t n : Int) : Int × Int := if 1073741824 ≤ n then (sadd [t, 1], 0) else (clip t, (if n < 0 then 0 else n) + 1)
set_option maxHeartbeats 1000000 in
set_option maxRecDepth 100000 in
theorem Next_calls (t n : Int) (w : World) : Calls Tryz.prog 132 #[.agg #[.int .i64 t, .int .i64 n]] w fun e w' => e = .returned (.agg #[.int .i64 (nextP t n).1, .int .i64 (nextP t n).2]) ∧ Below w.heap.size w w' := by
  by_cases h : 1073741824 ≤ n
  · have HN := Lib.hid (show nextP t n = (sadd [t, 1], 0) by unfold nextP; rw [if_pos h])
    have d1 : decide (1073741824 ≤ n) = true := decide_eq_true h
    clear h
    have H := Fr.start0 (M := fun _ => False) (A := fun _ => False) (w := w) (p := fun _ => True) (fun _ h => h.elim) (fun _ _ => trivial)
    go_enter Tryz.func132, Tryz.ntmps132
    go_wp2_with (first
      | ((with_reducible refine gate_dst (N := 1) rfl ?_); refine nB H ?_; intro g1 w1 H1; replace H := H1)
      | ((with_reducible refine gate_dst (N := 2) rfl ?_); refine nA #[.int .i64 0, .int .i64 0] 28 H ?_; intro g2 w2 H1; replace H := H1)
      | ((with_reducible refine gate_dst (N := 8) rfl ?_); refine nR H ?_; intro x8 w8 H1; replace H := H1)
      | ((with_reducible refine gS rfl ?_); refine xS H ?_; intro w_ H1; replace H := H1)
      | ((with_reducible refine gL rfl ?_); refine xL H ?_)
      | (go_at_call 40; (with_reducible refine (Add2 (H.of At.head)).mono ?_); rintro e w' ⟨rfl, hb⟩; have H1 := H.call hb; clear hb; replace H := H1; clear H1)
      | fail)
    refine bodyPost_ret (results_c rfl _ _ g2 28 _ (0, 0) _ rfl (H.of (by repeat (first | exact At.head | apply At.tail))) Tryz.underlying28 rfl (by kernel_rfl)) rfl ?_
    exact ⟨(by rw [HN.out]; try rfl), H.below⟩
  · have HN := Lib.hid (show nextP t n = (clip t, (if n < 0 then 0 else n) + 1) by unfold nextP; rw [if_neg h])
    have d1 : decide (1073741824 ≤ n) = false := decide_eq_false h
    obtain ⟨m, hm⟩ : ∃ m, (if n < 0 then 0 else n) = m := ⟨_, rfl⟩
    have e1 : IntKind.i64.wrap (m + 1) = m + 1 := by rw [IntKind.wrap_i64, ← hm]; split <;> omega
    rw [hm] at HN
    clear h
    have H := Fr.start0 (M := fun _ => False) (A := fun _ => False) (w := w) (p := fun _ => True) (fun _ h => h.elim) (fun _ _ => trivial)
    go_enter Tryz.func132, Tryz.ntmps132
    go_wp2_with (first
      | ((with_reducible refine gate_dst (N := 1) rfl ?_); refine nB H ?_; intro g1 w1 H1; replace H := H1)
      | ((with_reducible refine gate_dst (N := 2) rfl ?_); refine nA #[.int .i64 0, .int .i64 0] 28 H ?_; intro g2 w2 H1; replace H := H1)
      | ((with_reducible refine gate_dst (N := 8) rfl ?_); refine nR H ?_; intro x8 w8 H1; replace H := H1)
      | ((with_reducible refine gS rfl ?_); refine xS H ?_; intro w_ H1; replace H := H1)
      | ((with_reducible refine gL rfl ?_); refine xL H ?_)
      | fail)
    refine ko_region1 H (by simp only [List.length_cons, List.length_nil, Nat.reduceAdd]; rfl) (g := g2) (by repeat (first | exact Take.head | apply Take.tail)) (by kernel_rfl) (by as_aux_lemma => kernel_rfl) (fun HR => ?_)
    repeat ((first
      | ((with_reducible refine kg_call (f := 45) rfl ?_); refine yC 45 Tryz.func45 (fun W hC hd => ret_below (Clip_calls _ _)) ?_)
      | ((with_reducible refine kg_load rfl ?_); refine yL HR ?_)
      | ((with_reducible refine kg_store rfl ?_); refine yS ?_; (try simp only [Value.cells, List.length_cons, List.length_nil, Nat.reduceAdd]))
      | (refine yP ?_)
      | (refine yO ?_)); (try simp only [Act.put, lsA, lsZ, lsS, Nat.reduceAdd]))
    refine ko_end ?_
    intro w1 H1
    clear HR H
    have H := H1
    clear H1
    (try simp only [List.map_cons, List.map_nil, cv, List.cons_append, List.nil_append] at H)
    go_wp2
    refine bodyPost_ret (results_c rfl _ _ g2 28 _ (0, 0) _ rfl (H.of (by repeat (first | exact At.head | apply At.tail))) Tryz.underlying28 rfl (by kernel_rfl)) rfl ?_
    exact ⟨(by rw [HN.out]; try rfl), H.below⟩
def tickP (t n now : Int) : Int × Int := if t < clip now then (clip now, 0) else nextP t n
set_option maxHeartbeats 1000000 in
set_option maxRecDepth 100000 in
theorem Tick_calls (t n now : Int) (w : World) : Calls Tryz.prog 84 #[.agg #[.int .i64 t, .int .i64 n], .int .i64 now] w fun e w' => e = .returned (.agg #[.int .i64 (tickP t n now).1, .int .i64 (tickP t n now).2]) ∧ Below w.heap.size w w' := by
  by_cases h : t < clip now
  · have HN := Lib.hid (show tickP t n now = (clip now, 0) by unfold tickP; rw [if_pos h])
    have d1 : decide (t < clip now) = true := decide_eq_true h
    clear h
    have H := Fr.start0 (M := fun _ => False) (A := fun _ => False) (w := w) (p := fun _ => True) (fun _ h => h.elim) (fun _ _ => trivial)
    go_enter Tryz.func84, Tryz.ntmps84
    go_wp2_with (first
      | ((with_reducible refine gate_dst (N := 2) rfl ?_); refine nB H ?_; intro g2 w2 H1; replace H := H1)
      | ((with_reducible refine gate_dst (N := 4) rfl ?_); refine nA #[.int .i64 0, .int .i64 0] 140 H ?_; intro g4 w4 H1; replace H := H1)
      | ((with_reducible refine gS rfl ?_); refine xS H ?_; intro w_ H1; replace H := H1)
      | ((with_reducible refine gL rfl ?_); refine xL H ?_)
      | (go_at_call 45; (with_reducible refine (Clip_calls _ _).mono ?_); rintro e w' ⟨rfl, rfl⟩)
      | fail)
    refine bodyPost_ret (results_c rfl _ _ g4 140 _ (0, 0) _ rfl (H.of (by repeat (first | exact At.head | apply At.tail))) Tryz.underlying140 rfl (by kernel_rfl)) rfl ?_
    exact ⟨(by rw [HN.out]; try rfl), H.below⟩
  · have HN := Lib.hid (show tickP t n now = nextP t n by unfold tickP; rw [if_neg h])
    have d1 : decide (t < clip now) = false := decide_eq_false h
    clear h
    have H := Fr.start0 (M := fun _ => False) (A := fun _ => False) (w := w) (p := fun _ => True) (fun _ h => h.elim) (fun _ _ => trivial)
    go_enter Tryz.func84, Tryz.ntmps84
    go_wp2_with (first
      | ((with_reducible refine gate_dst (N := 2) rfl ?_); refine nB H ?_; intro g2 w2 H1; replace H := H1)
      | ((with_reducible refine gate_dst (N := 4) rfl ?_); refine nA #[.int .i64 0, .int .i64 0] 140 H ?_; intro g4 w4 H1; replace H := H1)
      | ((with_reducible refine gS rfl ?_); refine xS H ?_; intro w_ H1; replace H := H1)
      | ((with_reducible refine gL rfl ?_); refine xL H ?_)
      | (go_at_call 45; (with_reducible refine (Clip_calls _ _).mono ?_); rintro e w' ⟨rfl, rfl⟩)
      | (go_at_call 132; (with_reducible refine (Next_calls _ _ _).mono ?_); rintro e w' ⟨rfl, hb⟩; have H1 := H.call hb; clear hb; replace H := H1; clear H1)
      | fail)
    refine bodyPost_ret (results_c rfl _ _ g4 140 _ (0, 0) _ rfl (H.of (by repeat (first | exact At.head | apply At.tail))) Tryz.underlying140 rfl (by kernel_rfl)) rfl ?_
    exact ⟨(by rw [HN.out]; try rfl), H.below⟩
def mendP (t n now most : Int) : Int × Int × Bool := if (rightP t n && decide (t ≤ most)) = true then (t, n, false) else (clip now, 0, true)
set_option maxHeartbeats 1000000 in
set_option maxRecDepth 100000 in
theorem Mend_calls (t n now most : Int) (w : World) : Calls Tryz.prog 82 #[.agg #[.int .i64 t, .int .i64 n], .int .i64 now, .int .i64 most] w fun e w' => e = .returned (.tuple #[.agg #[.int .i64 (mendP t n now most).1, .int .i64 (mendP t n now most).2.1], .bool (mendP t n now most).2.2]) ∧ Below w.heap.size w w' := by
  obtain ⟨b, hb⟩ : ∃ b, rightP t n = b := ⟨_, rfl⟩
  obtain ⟨c, hc⟩ : ∃ c, decide (t ≤ most) = c := ⟨_, rfl⟩
  have HN := Lib.hid (show mendP t n now most = if (b && c) = true then (t, n, false) else (clip now, 0, true) by unfold mendP; rw [hb, hc])
  cases b with
  | false =>
    have H := Fr.start0 (M := fun _ => False) (A := fun _ => False) (w := w) (p := fun _ => True) (fun _ h => h.elim) (fun _ _ => trivial)
    go_enter Tryz.func82, Tryz.ntmps82
    go_wp2_with (first
      | ((with_reducible refine gate_dst (N := 3) rfl ?_); refine nB H ?_; intro g3 w3 H1; replace H := H1)
      | ((with_reducible refine gate_dst (N := 6) rfl ?_); refine nA #[.int .i64 0, .int .i64 0] 140 H ?_; intro g6 w6 H1; replace H := H1)
      | ((with_reducible refine gS rfl ?_); refine xS H ?_; intro w_ H1; replace H := H1)
      | ((with_reducible refine gL rfl ?_); (try (refine gate_guard (by rfl) ?_; dsimp only)); refine xL H ?_)
      | (go_at_call 45; (with_reducible refine (Clip_calls _ _).mono ?_); rintro e w' ⟨rfl, rfl⟩)
      | (go_at_call 49; (with_reducible refine (Right_calls _ _ _).mono ?_); rintro e w' ⟨rfl, hb⟩; have H1 := H.call hb; clear hb; replace H := H1; clear H1)
      | fail)
    refine bodyPost_ret (results_ct rfl _ _ g6 140 _ (0, 0) _ rfl (H.of (by repeat (first | exact At.head | apply At.tail))) Tryz.underlying140 rfl (by kernel_rfl)) rfl ?_
    exact ⟨(by rw [HN.out]; try rfl), H.below⟩
  | true =>
    cases c with
    | false =>
      have H := Fr.start0 (M := fun _ => False) (A := fun _ => False) (w := w) (p := fun _ => True) (fun _ h => h.elim) (fun _ _ => trivial)
      go_enter Tryz.func82, Tryz.ntmps82
      go_wp2_with (first
        | ((with_reducible refine gate_dst (N := 3) rfl ?_); refine nB H ?_; intro g3 w3 H1; replace H := H1)
        | ((with_reducible refine gate_dst (N := 6) rfl ?_); refine nA #[.int .i64 0, .int .i64 0] 140 H ?_; intro g6 w6 H1; replace H := H1)
        | ((with_reducible refine gS rfl ?_); refine xS H ?_; intro w_ H1; replace H := H1)
        | ((with_reducible refine gL rfl ?_); (try (refine gate_guard (by rfl) ?_; dsimp only)); refine xL H ?_)
        | (go_at_call 45; (with_reducible refine (Clip_calls _ _).mono ?_); rintro e w' ⟨rfl, rfl⟩)
        | (go_at_call 49; (with_reducible refine (Right_calls _ _ _).mono ?_); rintro e w' ⟨rfl, hb⟩; have H1 := H.call hb; clear hb; replace H := H1; clear H1)
        | fail)
      refine bodyPost_ret (results_ct rfl _ _ g6 140 _ (0, 0) _ rfl (H.of (by repeat (first | exact At.head | apply At.tail))) Tryz.underlying140 rfl (by kernel_rfl)) rfl ?_
      exact ⟨(by rw [HN.out]; try rfl), H.below⟩
    | true =>
      have H := Fr.start0 (M := fun _ => False) (A := fun _ => False) (w := w) (p := fun _ => True) (fun _ h => h.elim) (fun _ _ => trivial)
      go_enter Tryz.func82, Tryz.ntmps82
      go_wp2_with (first
        | ((with_reducible refine gate_dst (N := 3) rfl ?_); refine nB H ?_; intro g3 w3 H1; replace H := H1)
        | ((with_reducible refine gate_dst (N := 6) rfl ?_); refine nA #[.int .i64 0, .int .i64 0] 140 H ?_; intro g6 w6 H1; replace H := H1)
        | ((with_reducible refine gS rfl ?_); refine xS H ?_; intro w_ H1; replace H := H1)
        | ((with_reducible refine gL rfl ?_); (try (refine gate_guard (by rfl) ?_; dsimp only)); refine xL H ?_)
        | (go_at_call 45; (with_reducible refine (Clip_calls _ _).mono ?_); rintro e w' ⟨rfl, rfl⟩)
        | (go_at_call 49; (with_reducible refine (Right_calls _ _ _).mono ?_); rintro e w' ⟨rfl, hb⟩; have H1 := H.call hb; clear hb; replace H := H1; clear H1)
        | fail)
      refine bodyPost_ret (results_ct rfl _ _ g6 140 _ (0, 0) _ rfl (H.of (by repeat (first | exact At.head | apply At.tail))) Tryz.underlying140 rfl (by kernel_rfl)) rfl ?_
      exact ⟨(by rw [HN.out]; try rfl), H.below⟩
def slewP (p : Par) (t : Int) (set : Bool) (ticks z : Int) (jump : Bool) : Int := if (jump || !set) = true then clip z else sadd [sadd [t, ticks], bound (ssub z (sadd [t, ticks])) (sneg p.Mu) p.Mu]
set_option maxHeartbeats 4000000 in
set_option maxRecDepth 100000 in
theorem Slew_calls (p : Par) (t : Int) (set : Bool) (ticks z : Int) (jump : Bool) (w : World) : Calls Tryz.prog 81 #[.agg #[.int .i64 t, .bool set], .agg #[.int .i64 p.N, .int .i64 p.F, .int .i64 p.D, .int .i64 p.Be, .int .i64 p.Rho, .int .i64 p.De, .int .i64 p.Ji, .int .i64 p.Eps, .int .i64 p.Mu, .int .i64 p.Ho, .int .i64 p.Pu, .int .i64 p.Se], .int .i64 ticks, .int .i64 z, .bool jump] w fun e w' => e = .returned (.agg #[.int .i64 (slewP p t set ticks z jump), .bool true]) ∧ Below w.heap.size w w' := by
  obtain ⟨b, hb⟩ : ∃ b, (jump || !set) = b := ⟨_, rfl⟩
  cases b with
  | true =>
    have HN := Lib.hid (show slewP p t set ticks z jump = clip z by unfold slewP; rw [if_pos hb])
    cases jump with
    | true =>
      clear hb
      have H := Fr.start0 (M := fun _ => False) (A := fun _ => False) (w := w) (p := fun _ => True) (fun _ h => h.elim) (fun _ _ => trivial)
      go_enter Tryz.func81, Tryz.ntmps81
      go_wp2_with (first
        | ((with_reducible refine gate_dst (N := 5) rfl ?_); refine nB H ?_; intro g5 w5 H1; replace H := H1)
        | ((with_reducible refine gate_dst (N := 6) rfl ?_); refine nB H ?_; intro g6 w6 H1; replace H := H1)
        | ((with_reducible refine gate_dst (N := 10) rfl ?_); refine nA #[.int .i64 0, .bool false] 137 H ?_; intro g10 w10 H1; replace H := H1)
        | ((with_reducible refine gate_dst (N := 25) rfl ?_); refine nR H ?_; intro x25 w25 H1; replace H := H1)
        | ((with_reducible refine gate_dst (N := 38) rfl ?_); refine nR H ?_; intro x38 w38 H1; replace H := H1)
        | ((with_reducible refine gS rfl ?_); refine xS H ?_; intro w_ H1; replace H := H1)
        | ((with_reducible refine gL rfl ?_); (try (refine gate_guard (by rfl) ?_; dsimp only)); refine xL H ?_)
        | (go_at_call 45; (with_reducible refine (Clip_calls _ _).mono ?_); rintro e w' ⟨rfl, rfl⟩)
        | fail)
      refine bodyPost_ret (results_c rfl _ _ g10 137 _ (0, 0) _ rfl (H.of (by repeat (first | exact At.head | apply At.tail))) Tryz.underlying137 rfl (by kernel_rfl)) rfl ?_
      exact ⟨(by rw [HN.out]; try rfl), H.below⟩
    | false =>
      cases set with
      | true => cases hb
      | false =>
        clear hb
        have H := Fr.start0 (M := fun _ => False) (A := fun _ => False) (w := w) (p := fun _ => True) (fun _ h => h.elim) (fun _ _ => trivial)
        go_enter Tryz.func81, Tryz.ntmps81
        go_wp2_with (first
          | ((with_reducible refine gate_dst (N := 5) rfl ?_); refine nB H ?_; intro g5 w5 H1; replace H := H1)
          | ((with_reducible refine gate_dst (N := 6) rfl ?_); refine nB H ?_; intro g6 w6 H1; replace H := H1)
          | ((with_reducible refine gate_dst (N := 10) rfl ?_); refine nA #[.int .i64 0, .bool false] 137 H ?_; intro g10 w10 H1; replace H := H1)
          | ((with_reducible refine gate_dst (N := 25) rfl ?_); refine nR H ?_; intro x25 w25 H1; replace H := H1)
          | ((with_reducible refine gate_dst (N := 38) rfl ?_); refine nR H ?_; intro x38 w38 H1; replace H := H1)
          | ((with_reducible refine gS rfl ?_); refine xS H ?_; intro w_ H1; replace H := H1)
          | ((with_reducible refine gL rfl ?_); (try (refine gate_guard (by rfl) ?_; dsimp only)); refine xL H ?_)
          | (go_at_call 45; (with_reducible refine (Clip_calls _ _).mono ?_); rintro e w' ⟨rfl, rfl⟩)
          | fail)
        refine bodyPost_ret (results_c rfl _ _ g10 137 _ (0, 0) _ rfl (H.of (by repeat (first | exact At.head | apply At.tail))) Tryz.underlying137 rfl (by kernel_rfl)) rfl ?_
        exact ⟨(by rw [HN.out]; try rfl), H.below⟩
  | false =>
    have HN := Lib.hid (show slewP p t set ticks z jump = sadd [sadd [t, ticks], bound (ssub z (sadd [t, ticks])) (sneg p.Mu) p.Mu] by unfold slewP; rw [if_neg (by rw [hb]; decide)])
    cases jump with
    | true => cases hb
    | false =>
      cases set with
      | false => cases hb
      | true =>
        clear hb
        have H := Fr.start0 (M := fun _ => False) (A := fun _ => False) (w := w) (p := fun _ => True) (fun _ h => h.elim) (fun _ _ => trivial)
        go_enter Tryz.func81, Tryz.ntmps81
        go_wp2_with (first
          | ((with_reducible refine gate_dst (N := 5) rfl ?_); refine nB H ?_; intro g5 w5 H1; replace H := H1)
          | ((with_reducible refine gate_dst (N := 6) rfl ?_); refine nB H ?_; intro g6 w6 H1; replace H := H1)
          | ((with_reducible refine gate_dst (N := 10) rfl ?_); refine nA #[.int .i64 0, .bool false] 137 H ?_; intro g10 w10 H1; replace H := H1)
          | ((with_reducible refine gate_dst (N := 25) rfl ?_); refine nR H ?_; intro x25 w25 H1; replace H := H1)
          | ((with_reducible refine gate_dst (N := 38) rfl ?_); refine nR H ?_; intro x38 w38 H1; replace H := H1)
          | ((with_reducible refine gS rfl ?_); refine xS H ?_; intro w_ H1; replace H := H1)
          | ((with_reducible refine gL rfl ?_); (try (refine gate_guard (by rfl) ?_; dsimp only)); refine xL H ?_)
          | (go_at_call 40; (with_reducible refine (Add2 (H.of At.head)).mono ?_); rintro e w' ⟨rfl, hb⟩; have H1 := H.call hb; clear hb; replace H := H1; clear H1)
          | fail)
        refine ko_region0 H (by kernel_rfl) (by as_aux_lemma => kernel_rfl) (fun HR => ?_)
        repeat ((first
          | ((with_reducible refine kg_call (f := 77) rfl ?_); refine yC 77 Tryz.func77 (fun W hC hd => ret_below (Sub_calls _ _ _)) ?_)
          | ((with_reducible refine kg_call (f := 123) rfl ?_); refine yC 123 Tryz.func123 (fun W hC hd => ret_below (Neg_calls _ _)) ?_)
          | ((with_reducible refine kg_call (f := 46) rfl ?_); refine yC 46 Tryz.func46 (fun W hC hd => ret_below (Bound_calls _ _ _ _)) ?_)
          | ((with_reducible refine kg_load rfl ?_); refine yL HR ?_)
          | (refine yP ?_)
          | (refine yO ?_)); (try simp only [Act.put, lsA, lsZ, lsS, Nat.reduceAdd]))
        refine ko_end ?_
        intro w1 H1
        clear HR H
        have H := H1
        clear H1
        (try simp only [List.map_cons, List.map_nil, cv, List.cons_append, List.nil_append] at H)
        go_wp2_with (first
          | ((with_reducible refine gate_dst (N := 5) rfl ?_); refine nB H ?_; intro g5 w5 H1; replace H := H1)
          | ((with_reducible refine gate_dst (N := 6) rfl ?_); refine nB H ?_; intro g6 w6 H1; replace H := H1)
          | ((with_reducible refine gate_dst (N := 10) rfl ?_); refine nA #[.int .i64 0, .bool false] 137 H ?_; intro g10 w10 H1; replace H := H1)
          | ((with_reducible refine gate_dst (N := 25) rfl ?_); refine nR H ?_; intro x25 w25 H1; replace H := H1)
          | ((with_reducible refine gate_dst (N := 38) rfl ?_); refine nR H ?_; intro x38 w38 H1; replace H := H1)
          | ((with_reducible refine gS rfl ?_); refine xS H ?_; intro w_ H1; replace H := H1)
          | ((with_reducible refine gL rfl ?_); (try (refine gate_guard (by rfl) ?_; dsimp only)); refine xL H ?_)
          | (go_at_call 40; (with_reducible refine (Add2 (H.of At.head)).mono ?_); rintro e w' ⟨rfl, hb⟩; have H1 := H.call hb; clear hb; replace H := H1; clear H1)
          | fail)
        refine bodyPost_ret (results_c rfl _ _ g10 137 _ (0, 0) _ rfl (H.of (by repeat (first | exact At.head | apply At.tail))) Tryz.underlying137 rfl (by kernel_rfl)) rfl ?_
        exact ⟨(by rw [HN.out]; try rfl), H.below⟩
end Go.Proofs.YtdaohldmojpihaaGreatDoor.G

namespace Go.Proofs.YtdaohldmojpihaaGreatDoor.G
open Go.RowKit Go.Proofs.YtdaohldmojpihaaGreatDoorW.PrintWords Go.Proofs.YtdaohldmojpihaaGreatDoorW.PrintLast Go.Proofs.YtdaohldmojpihaaGreatDoorW.PrintMore Go.Proofs.YtdaohldmojpihaaGreatDoorPl Go.Proofs.YtdaohldmojpihaaGreatDoorEm Go.Proofs.YtdaohldmojpihaaGreatDoorKr Go.Proofs.YtdaohldmojpihaaGreatDoorAy
set_option linter.unusedVariables false
set_option linter.unusedSimpArgs false
def moreP (held : Int) : Int := bound (sadd [held, 1]) 0 1073741824
set_option maxHeartbeats 1000000 in
theorem More_calls (held : Int) (w : World) : Calls Tryz.prog 35 #[.int .i64 held] w fun e w' => e = .returned (.int .i64 (moreP held)) ∧ Below w.heap.size w w' := by
  have H := Fr.start0 (M := fun _ => False) (A := fun _ => False) (w := w) (p := fun _ => True) (fun _ h => h.elim) (fun _ _ => trivial)
  go_enter Tryz.func35, Tryz.ntmps35
  go_wp2_with (first
    | ((with_reducible refine gate_dst (N := 4) rfl ?_); refine nR H ?_; intro x4 w4 H1; replace H := H1)
    | (go_at_call 40; (with_reducible refine (Add2 (H.of At.head)).mono ?_); rintro e w' ⟨rfl, hb⟩; have H1 := H.call hb; clear hb; replace H := H1; clear H1)
    | (go_at_call 46; (with_reducible refine (Bound_calls _ _ _ _).mono ?_); rintro e w' ⟨rfl, rfl⟩)
    | fail)
  go_ret
  exact ⟨rfl, H.below⟩
def ofP (p : Par) (set good : Bool) (held hops : Int) : Int := if (!good || !set || decide (p.D < hops)) = true then 0 else if p.Ho < held then 2 else 1
set_option maxHeartbeats 2000000 in
set_option maxRecDepth 100000 in
theorem Of_calls (p : Par) (lo hi time : Int) (set : Bool) (held hops : Int) (good : Bool) (A : Option Addr) (n c : Nat) (st sn life : Int) (w : World) :
    Calls Tryz.prog 80 #[.agg #[.int .i64 p.N, .int .i64 p.F, .int .i64 p.D, .int .i64 p.Be, .int .i64 p.Rho, .int .i64 p.De, .int .i64 p.Ji, .int .i64 p.Eps, .int .i64 p.Mu, .int .i64 p.Ho, .int .i64 p.Pu, .int .i64 p.Se], .agg #[.int .i64 lo, .int .i64 hi, .int .i64 time, .bool set, .int .i64 held, .int .i64 hops, .bool good, .slice A n c, .int .i64 st, .int .i64 sn, .int .i64 life]] w fun e w' => e = .returned (.int .i64 (ofP p set good held hops)) ∧ Below w.heap.size w w' := by
  cases good with
  | false =>
    have HO := Lib.hid (show ofP p set false held hops = 0 by unfold ofP; simp)
    have h1 : True := trivial
    clear h1
    have H := Fr.start0 (M := fun _ => False) (A := fun _ => False) (w := w) (p := fun _ => True) (fun _ h => h.elim) (fun _ _ => trivial)
    go_enter Tryz.func80, Tryz.ntmps80
    go_wp2_with (first
      | ((with_reducible refine gate_dst (N := 2) rfl ?_); refine nB H ?_; intro g2 w2 H1; replace H := H1)
      | ((with_reducible refine gate_dst (N := 3) rfl ?_); refine nB H ?_; intro g3 w3 H1; replace H := H1)
      | ((with_reducible refine gL rfl ?_); (try (refine gate_guard (by rfl) ?_; dsimp only)); refine xL H ?_)
      | fail)
    go_ret
    exact ⟨(by rw [HO.out]; try rfl), H.below⟩
  | true =>
    cases set with
    | false =>
      have HO := Lib.hid (show ofP p false true held hops = 0 by unfold ofP; simp)
      have h1 : True := trivial
      clear h1
      have H := Fr.start0 (M := fun _ => False) (A := fun _ => False) (w := w) (p := fun _ => True) (fun _ h => h.elim) (fun _ _ => trivial)
      go_enter Tryz.func80, Tryz.ntmps80
      go_wp2_with (first
        | ((with_reducible refine gate_dst (N := 2) rfl ?_); refine nB H ?_; intro g2 w2 H1; replace H := H1)
        | ((with_reducible refine gate_dst (N := 3) rfl ?_); refine nB H ?_; intro g3 w3 H1; replace H := H1)
        | ((with_reducible refine gL rfl ?_); (try (refine gate_guard (by rfl) ?_; dsimp only)); refine xL H ?_)
        | fail)
      go_ret
      exact ⟨(by rw [HO.out]; try rfl), H.below⟩
    | true =>
      by_cases h1 : p.D < hops
      · have d1 : decide (p.D < hops) = true := decide_eq_true h1
        have HO := Lib.hid (show ofP p true true held hops = 0 by unfold ofP; simp [h1])
        clear h1
        have H := Fr.start0 (M := fun _ => False) (A := fun _ => False) (w := w) (p := fun _ => True) (fun _ h => h.elim) (fun _ _ => trivial)
        go_enter Tryz.func80, Tryz.ntmps80
        go_wp2_with (first
          | ((with_reducible refine gate_dst (N := 2) rfl ?_); refine nB H ?_; intro g2 w2 H1; replace H := H1)
          | ((with_reducible refine gate_dst (N := 3) rfl ?_); refine nB H ?_; intro g3 w3 H1; replace H := H1)
          | ((with_reducible refine gL rfl ?_); (try (refine gate_guard (by rfl) ?_; dsimp only)); refine xL H ?_)
          | fail)
        go_ret
        exact ⟨(by rw [HO.out]; try rfl), H.below⟩
      · have d1 : decide (p.D < hops) = false := decide_eq_false h1
        by_cases h2 : p.Ho < held
        · have d2 : decide (p.Ho < held) = true := decide_eq_true h2
          have HO := Lib.hid (show ofP p true true held hops = 2 by unfold ofP; simp [h1, h2])
          clear h2
          clear h1
          have H := Fr.start0 (M := fun _ => False) (A := fun _ => False) (w := w) (p := fun _ => True) (fun _ h => h.elim) (fun _ _ => trivial)
          go_enter Tryz.func80, Tryz.ntmps80
          go_wp2_with (first
            | ((with_reducible refine gate_dst (N := 2) rfl ?_); refine nB H ?_; intro g2 w2 H1; replace H := H1)
            | ((with_reducible refine gate_dst (N := 3) rfl ?_); refine nB H ?_; intro g3 w3 H1; replace H := H1)
            | ((with_reducible refine gL rfl ?_); (try (refine gate_guard (by rfl) ?_; dsimp only)); refine xL H ?_)
            | fail)
          go_ret
          exact ⟨(by rw [HO.out]; try rfl), H.below⟩
        · have d2 : decide (p.Ho < held) = false := decide_eq_false h2
          have HO := Lib.hid (show ofP p true true held hops = 1 by unfold ofP; simp [h1, h2])
          clear h2
          clear h1
          have H := Fr.start0 (M := fun _ => False) (A := fun _ => False) (w := w) (p := fun _ => True) (fun _ h => h.elim) (fun _ _ => trivial)
          go_enter Tryz.func80, Tryz.ntmps80
          go_wp2_with (first
            | ((with_reducible refine gate_dst (N := 2) rfl ?_); refine nB H ?_; intro g2 w2 H1; replace H := H1)
            | ((with_reducible refine gate_dst (N := 3) rfl ?_); refine nB H ?_; intro g3 w3 H1; replace H := H1)
            | ((with_reducible refine gL rfl ?_); (try (refine gate_guard (by rfl) ?_; dsimp only)); refine xL H ?_)
            | fail)
          go_ret
          exact ⟨(by rw [HO.out]; try rfl), H.below⟩
end Go.Proofs.YtdaohldmojpihaaGreatDoor.G

namespace Go.Proofs.YtdaohldmojpihaaGreatDoor.G
open Go.RowKit Go.Proofs.YtdaohldmojpihaaGreatDoorW.PrintWords Go.Proofs.YtdaohldmojpihaaGreatDoorW.PrintLast Go.Proofs.YtdaohldmojpihaaGreatDoorW.PrintMore Go.Proofs.YtdaohldmojpihaaGreatDoorPl Go.Proofs.YtdaohldmojpihaaGreatDoorEm Go.Proofs.YtdaohldmojpihaaGreatDoorKr Go.Proofs.YtdaohldmojpihaaGreatDoorAy
set_option linter.unusedVariables false
set_option linter.unusedSimpArgs false
theorem one_if (c : Int) : (if clip c < 1 then 1 else clip c) = one c := rfl
set_option maxHeartbeats 2000000 in
set_option maxRecDepth 100000 in
theorem Div_calls (a c : Int) (w : World) : Calls Tryz.prog 170 #[.int .i64 a, .int .i64 c] w fun e w' => e = .returned (.tuple #[.int .i64 (dv a c), .int .i64 (md a c)]) ∧ Below w.heap.size w w' := by
  have HO := one_if c
  have h1 := (one_bd c).1
  have h2 := (one_bd c).2
  have h3 := (clip_bd a).1
  have h4 := (clip_bd a).2
  have q1 := (tdiv_bd (a := clip a) (c := one c) h1 h3 h4).1
  have q2 := (tdiv_bd (a := clip a) (c := one c) h1 h3 h4).2
  have m1 := (tmod_bd (a := clip a) (c := one c) h1).1
  have m2 := (tmod_bd (a := clip a) (c := one c) h1).2
  have hz : (one c == 0) = false := beq_eq_false_iff_ne.2 (by omega)
  have hz2 : ¬ one c = 0 := by omega
  have hd1 : dv a c = clip a / one c := rfl
  have hd2 : md a c = clip a % one c := rfl
  have e1 : IntKind.i64.wrap ((clip a).tdiv (one c)) = (clip a).tdiv (one c) := by rw [IntKind.wrap_i64]; omega
  by_cases hm : (clip a).tmod (one c) < 0
  · have HD := Lib.hid (show dv a c = (clip a).tdiv (one c) - 1 ∧ md a c = (clip a).tmod (one c) + one c by
      have := (tdown (a := clip a) (c := one c) (by omega)).1 hm
      rw [hd1, hd2, this.1, this.2]; exact ⟨rfl, rfl⟩)
    have dm : decide ((clip a).tmod (one c) < 0) = true := decide_eq_true hm
    clear hd1 hd2 hm
    have H := Fr.start0 (M := fun _ => False) (A := fun _ => False) (w := w) (p := fun _ => True) (fun _ h => h.elim) (fun _ _ => trivial)
    go_enter Tryz.func170, Tryz.ntmps170
    go_wp2_with (first
      | (go_at_call 45; (with_reducible refine (Clip_calls _ _).mono ?_); rintro e w' ⟨rfl, rfl⟩)
      | fail)
    refine ko_region0 H (by kernel_rfl) (by as_aux_lemma => kernel_rfl) (fun HR => ?_)
    repeat ((first
      | (refine yP ?_)
      | (refine yO ?_)); (try simp only [Act.put, lsA, lsZ, lsS, Nat.reduceAdd]))
    refine ko_end ?_
    intro w1 H1
    clear HR H
    have H := H1
    clear H1
    (try simp only [List.map_cons, List.map_nil, cv, List.cons_append, List.nil_append] at H)
    go_wp2
    go_ret2
    exact ⟨(by rw [HD.out.1, HD.out.2]; try rfl), H.below⟩
  · have HD := Lib.hid (show dv a c = (clip a).tdiv (one c) ∧ md a c = (clip a).tmod (one c) by
      have := (tdown (a := clip a) (c := one c) (by omega)).2 hm
      rw [hd1, hd2, this.1, this.2]; exact ⟨rfl, rfl⟩)
    have dm : decide ((clip a).tmod (one c) < 0) = false := decide_eq_false hm
    clear hd1 hd2 hm
    have H := Fr.start0 (M := fun _ => False) (A := fun _ => False) (w := w) (p := fun _ => True) (fun _ h => h.elim) (fun _ _ => trivial)
    go_enter Tryz.func170, Tryz.ntmps170
    go_wp2_with (first
      | (go_at_call 45; (with_reducible refine (Clip_calls _ _).mono ?_); rintro e w' ⟨rfl, rfl⟩)
      | fail)
    refine ko_region0 H (by kernel_rfl) (by as_aux_lemma => kernel_rfl) (fun HR => ?_)
    repeat ((first
      | (refine yP ?_)
      | (refine yO ?_)); (try simp only [Act.put, lsA, lsZ, lsS, Nat.reduceAdd]))
    refine ko_end ?_
    intro w1 H1
    clear HR H
    have H := H1
    clear H1
    (try simp only [List.map_cons, List.map_nil, cv, List.cons_append, List.nil_append] at H)
    go_wp2
    go_ret2
    exact ⟨(by rw [HD.out.1, HD.out.2]; try rfl), H.below⟩
def numP (p : Par) (t : Int) : Int := dv t p.Pu
set_option maxHeartbeats 2000000 in
set_option maxRecDepth 100000 in
theorem Number_calls (p : Par) (t : Int) (w : World) : Calls Tryz.prog 135 #[.agg #[.int .i64 p.N, .int .i64 p.F, .int .i64 p.D, .int .i64 p.Be, .int .i64 p.Rho, .int .i64 p.De, .int .i64 p.Ji, .int .i64 p.Eps, .int .i64 p.Mu, .int .i64 p.Ho, .int .i64 p.Pu, .int .i64 p.Se], .int .i64 t] w fun e w' => e = .returned (.int .i64 (numP p t)) ∧ Below w.heap.size w w' := by
  have H := Fr.start0 (M := fun _ => False) (A := fun _ => False) (w := w) (p := fun _ => True) (fun _ h => h.elim) (fun _ _ => trivial)
  go_enter Tryz.func135, Tryz.ntmps135
  go_wp2_with (first
    | ((with_reducible refine gate_dst (N := 2) rfl ?_); refine nB H ?_; intro g2 w2 H1; replace H := H1)
    | ((with_reducible refine gL rfl ?_); refine xL H ?_)
    | (go_at_call 170; (with_reducible refine (Div_calls _ _ _).mono ?_); rintro e w' ⟨rfl, hb⟩; have H1 := H.call hb; clear hb; replace H := H1; clear H1)
    | fail)
  go_ret
  exact ⟨rfl, H.below⟩
def inP (x lo hi : Int) : Bool := decide (lo ≤ x) && decide (x ≤ hi)
theorem in_bd {x lo hi : Int} (h : inP x lo hi = true) : lo ≤ x ∧ x ≤ hi := by unfold inP at h; simpa using h
end Go.Proofs.YtdaohldmojpihaaGreatDoor.G

namespace Go.Proofs.YtdaohldmojpihaaGreatDoor.G
open Go.RowKit Go.Proofs.YtdaohldmojpihaaGreatDoorW.PrintWords Go.Proofs.YtdaohldmojpihaaGreatDoorW.PrintLast Go.Proofs.YtdaohldmojpihaaGreatDoorW.PrintMore Go.Proofs.YtdaohldmojpihaaGreatDoorPl Go.Proofs.YtdaohldmojpihaaGreatDoorEm Go.Proofs.YtdaohldmojpihaaGreatDoorKr Go.Proofs.YtdaohldmojpihaaGreatDoor.X
set_option linter.unusedVariables false
set_option linter.unusedSimpArgs false
abbrev Lp := S72
theorem leap_at {w : World} {A : Option Addr} {xs : List Lp} (h : Kd.C k72 w A xs.length xs) (k : Nat) (hk : k < xs.length) :
    ∃ ad, A = some ad ∧ ∀ j u, [Value.int .i64 xs[k].f0, .int .i64 xs[k].f1][j]? = some u → w.cell? ((ad.add (k * 2)).add j) = some u := by
  obtain ⟨ad, c, e, _, hK, hc⟩ := Kd.C_get h z72 k (by omega) (by omega)
  have e2 := k72_open hK
  refine ⟨ad, e, fun j u hu => ?_⟩
  rw [add_add]
  have hg : rdOf z72 xs (k : Int) = xs[k] := by simp [rdOf, List.getD_eq_getElem?_getD, hk]
  have : w.cell? (ad.add ((k : Int).toNat * 2 + j)) = some u := hc j u (by
    rw [e2]
    show [Value.int .i64 (rdOf z72 xs (k : Int)).f0, Value.int .i64 (rdOf z72 xs (k : Int)).f1][j]? = some u
    rw [hg]; exact hu)
  simpa using this
theorem WIn_calls (lo hi x : Int) (g t : Nat) (w : World) (h : w.heap[g]? = some (.cells #[.int .i64 x] t (0, 0))) : Calls Tryz.prog 136 #[.int .i64 lo, .int .i64 hi, .slice (some ⟨g, 0, none⟩) 1 1] w fun e w' => e = .returned (.bool (inP x lo hi)) ∧ Below w.heap.size w w' := by
  have hc : w.cell? ⟨g, 0, none⟩ = some (.int .i64 x) := blk_cell h 0
  clear h
  obtain ⟨b, hb⟩ : ∃ b, decide (x < lo) = b := ⟨_, rfl⟩
  obtain ⟨c, hc2⟩ : ∃ c, decide (hi < x) = c := ⟨_, rfl⟩
  have HI := Lib.hid (show inP x lo hi = (!b && !c) by
    unfold inP; rw [← hb, ← hc2, Bool.eq_iff_iff]; simp [Int.not_lt])
  by_cases hbc : (!b && !c) = true
  · have hb1 : b = false := by cases b <;> simp_all
    have hc1 : c = false := by cases c <;> simp_all
    subst hb1 hc1
    clear hbc
    go_enter Tryz.func136, Tryz.ntmps136
    go_wp2
    go_loop [11] (fun v => ∃ k : Nat, k ≤ 1 ∧ v = .int .i64 k) (fun v => 1 - (intOf v).toNat)
    case atStart => exact ⟨0, by omega, rfl⟩
    case round =>
      obtain ⟨k, hk, rfl⟩ := hrel
      by_cases h0 : k = 0
      · subst h0
        go_wp2
        go_round
        case rel => exact ⟨1, by omega, rfl⟩
        case measure => simp [intOf]
      · obtain rfl : k = 1 := by omega
        clear h0
        go_wp2
        go_ret
        exact ⟨(by rw [HI.out]; try rfl), Below.refl _ _⟩
  · have HF := Lib.hid (show inP x lo hi = false by rw [HI.out]; simpa using hbc)
    have hor : b = true ∨ (b = false ∧ c = true) := by cases b <;> cases c <;> simp_all
    clear hbc HI
    rcases hor with rfl | ⟨rfl, rfl⟩
    all_goals
      go_enter Tryz.func136, Tryz.ntmps136
      go_wp2
      go_loop [11] (fun v => v = .int .i64 0) (fun v => 1 - (intOf v).toNat)
      case atStart => rfl
      case round =>
        subst hrel
        go_wp2
        go_ret
        exact ⟨(by rw [HF.out]; try rfl), Below.refl _ _⟩
def tbI : Nat → Int → Int → List Lp → Bool
  | _, _, _, [] => true
  | i, pv, off, x :: l => decide (i < 32) && inP x.f0 0 1099511627776 && inP x.f1 (-32) 32 && (decide (i = 0) || decide (86400 ≤ x.f0 - pv)) && (decide (x.f1 - off = 1) || decide (x.f1 - off = -1)) && tbI (i + 1) x.f0 x.f1 l
def tb (l : List Lp) : Bool := tbI 0 0 0 l
end Go.Proofs.YtdaohldmojpihaaGreatDoor.G

namespace Go.Proofs.YtdaohldmojpihaaGreatDoor.G
open Go.RowKit Go.Proofs.YtdaohldmojpihaaGreatDoorW.PrintWords Go.Proofs.YtdaohldmojpihaaGreatDoorW.PrintLast Go.Proofs.YtdaohldmojpihaaGreatDoorW.PrintMore Go.Proofs.YtdaohldmojpihaaGreatDoorPl Go.Proofs.YtdaohldmojpihaaGreatDoorEm Go.Proofs.YtdaohldmojpihaaGreatDoorKr Go.Proofs.YtdaohldmojpihaaGreatDoor.X Go.Proofs.YtdaohldmojpihaaGreatDoorAy
set_option linter.unusedVariables false
set_option linter.unusedSimpArgs false
theorem fit_cases (ki pv off x0 x1 : Int) (f : Bool) (hf : (decide (ki < 32) && inP x0 0 1099511627776 && inP x1 (-32) 32 && (decide (ki = 0) || decide (86400 ≤ x0 - pv)) && (decide (x1 - off = 1) || decide (x1 - off = -1))) = f) (h0 : 0 ≤ ki) :
    (f = false ∧ decide (32 ≤ ki) = true) ∨ (f = false ∧ decide (32 ≤ ki) = false ∧ inP x0 0 1099511627776 = false) ∨ (f = false ∧ decide (32 ≤ ki) = false ∧ inP x0 0 1099511627776 = true ∧ inP x1 (-32) 32 = false) ∨
    (f = false ∧ decide (32 ≤ ki) = false ∧ inP x0 0 1099511627776 = true ∧ inP x1 (-32) 32 = true ∧ decide (0 < ki) = true ∧ decide (x0 - pv < 86400) = true) ∨
    (f = false ∧ decide (32 ≤ ki) = false ∧ inP x0 0 1099511627776 = true ∧ inP x1 (-32) 32 = true ∧ decide (0 < ki) = false ∧ (x1 - off == 1) = false ∧ (x1 - off == -1) = false) ∨
    (f = false ∧ decide (32 ≤ ki) = false ∧ inP x0 0 1099511627776 = true ∧ inP x1 (-32) 32 = true ∧ decide (0 < ki) = true ∧ decide (x0 - pv < 86400) = false ∧ (x1 - off == 1) = false ∧ (x1 - off == -1) = false) ∨
    (f = true ∧ decide (32 ≤ ki) = false ∧ inP x0 0 1099511627776 = true ∧ inP x1 (-32) 32 = true ∧ decide (0 < ki) = false ∧ (x1 - off == 1) = true) ∨
    (f = true ∧ decide (32 ≤ ki) = false ∧ inP x0 0 1099511627776 = true ∧ inP x1 (-32) 32 = true ∧ decide (0 < ki) = false ∧ (x1 - off == 1) = false ∧ (x1 - off == -1) = true) ∨
    (f = true ∧ decide (32 ≤ ki) = false ∧ inP x0 0 1099511627776 = true ∧ inP x1 (-32) 32 = true ∧ decide (0 < ki) = true ∧ decide (x0 - pv < 86400) = false ∧ (x1 - off == 1) = true) ∨
    (f = true ∧ decide (32 ≤ ki) = false ∧ inP x0 0 1099511627776 = true ∧ inP x1 (-32) 32 = true ∧ decide (0 < ki) = true ∧ decide (x0 - pv < 86400) = false ∧ (x1 - off == 1) = false ∧ (x1 - off == -1) = true) := by
  have e1 : decide (ki < 32) = !decide (32 ≤ ki) := by rw [Bool.eq_iff_iff]; simp [Int.not_le]
  have e2 : decide (ki = 0) = !decide (0 < ki) := by rw [Bool.eq_iff_iff]; simp; omega
  have e3 : decide (86400 ≤ x0 - pv) = !decide (x0 - pv < 86400) := by rw [Bool.eq_iff_iff]; simp [Int.not_lt]
  have e4 : decide (x1 - off = 1) = (x1 - off == 1) := by rw [Bool.eq_iff_iff]; simp
  have e5 : decide (x1 - off = -1) = (x1 - off == -1) := by rw [Bool.eq_iff_iff]; simp
  rw [e1, e2, e3, e4, e5] at hf
  subst hf
  generalize decide (32 ≤ ki) = a
  generalize inP x0 0 1099511627776 = b
  generalize inP x1 (-32) 32 = c
  generalize decide (0 < ki) = d
  generalize decide (x0 - pv < 86400) = e
  generalize (x1 - off == 1) = f
  generalize (x1 - off == -1) = g
  cases a <;> cases b <;> cases c <;> cases d <;> cases e <;> cases f <;> cases g <;> simp
set_option maxRecDepth 100000 in
set_option maxHeartbeats 8000000 in
theorem Table_calls (A : Option Addr) (c : Nat) (l : List Lp) (w : World) (hr : Kd.C k72 w A l.length l) :
    Calls Tryz.prog 88 #[.slice A l.length c] w fun e w' => e = .returned (.bool (tb l)) ∧ Below w.heap.size w w' := by
  have hm : l.length ≤ 9223372036854775807 := hr.2.1
  have H := Fr.start0 (M := fun _ => False) (A := fun _ => False) (w := w) (p := fun W => Kd.C k72 W A l.length l) (fun _ h => h.elim) (Go.Proofs.YtdaohldmojpihaaGreatDoorEv.Tr.of_C hr k72_heap)
  obtain ⟨n, hn⟩ : ∃ n, l.length = n := ⟨_, rfl⟩
  obtain ⟨r, hr'⟩ : ∃ r, tb l = r := ⟨_, rfl⟩
  have HN := Lib.hid hn
  have HT : Hid (tbI 0 0 0 (l.drop 0) = r) := Lib.hid hr'
  rw [hn] at hm ⊢
  rw [hr']
  clear hr hn hr'
  go_enter Tryz.func88, Tryz.ntmps88
  go_wp2
  go_loopw [3, 8] (fun v3 v8 wr => ∃ (k : Nat) (pv off : Int), k ≤ n ∧ v8 = .int .i64 k ∧ v3 = .int .i64 off ∧ Hid (tbI k pv off (l.drop k) = r) ∧ -32 ≤ off ∧ off ≤ 32 ∧ 0 ≤ pv ∧ pv ≤ 1099511627776 ∧ Hid (0 < k → ∃ h : k - 1 < l.length, (l[k - 1]'h).f0 = pv) ∧ Fr (fun _ => False) (fun _ => False) w wr [] (fun W => Kd.C k72 W A l.length l)) (fun _ v8 _ => n - (intOf v8).toNat)
  case atStart => exact ⟨0, 0, 0, by omega, rfl, rfl, HT, by omega, by omega, by omega, by omega, Lib.hid (fun h => absurd h (by omega)), H⟩
  case round =>
    clear H HT
    obtain ⟨k, pv, off, hk, rfl, rfl, HS, ho1, ho2, hp1, hp2, HP, H⟩ := hrel
    by_cases hlt : k < n
    · have hkl : k < l.length := by rw [HN.out]; exact hlt
      have hk1 : (k : Int) < (n : Int) := by omega
      have hs1 : -9223372036854775808 ≤ (k : Int) + 1 := by omega
      have hs2 : (k : Int) + 1 ≤ 9223372036854775807 := by omega
      obtain ⟨ad, e, hx⟩ := leap_at H.now k hkl
      cases e
      obtain ⟨x, hxe⟩ : ∃ x, l[k] = x := ⟨_, rfl⟩
      have HD : Hid (l.drop k = x :: l.drop (k + 1)) := Lib.hid (by rw [List.drop_eq_getElem_cons hkl, hxe])
      have HX : Hid (∃ h : k < l.length, (l[k]'h).f0 = x.f0) := Lib.hid ⟨hkl, by rw [hxe]⟩
      rw [hxe] at hx
      obtain ⟨x0, x1, e0, e1⟩ : ∃ x0 x1, x.f0 = x0 ∧ x.f1 = x1 := ⟨_, _, rfl, rfl⟩
      obtain ⟨f, hf⟩ : ∃ f, (decide ((k : Int) < 32) && inP x0 0 1099511627776 && inP x1 (-32) 32 && (decide ((k : Int) = 0) || decide (86400 ≤ x0 - pv)) && (decide (x1 - off = 1) || decide (x1 - off = -1))) = f := ⟨_, rfl⟩
      have HS2 : Hid ((f && tbI (k + 1) x0 x1 (l.drop (k + 1))) = r) := Lib.hid (by
        rw [← HS.out, HD.out]
        show _ = (decide (k < 32) && inP x.f0 0 1099511627776 && inP x.f1 (-32) 32 && (decide (k = 0) || decide (86400 ≤ x.f0 - pv)) && (decide (x.f1 - off = 1) || decide (x.f1 - off = -1)) && tbI (k + 1) x.f0 x.f1 (l.drop (k + 1)))
        rw [e0, e1, ← hf]
        have a1 : decide ((k : Int) < 32) = decide (k < 32) := by rw [Bool.eq_iff_iff]; simp; omega
        have a2 : decide ((k : Int) = 0) = decide (k = 0) := by rw [Bool.eq_iff_iff]; simp
        rw [a1, a2])
      have hcs := fit_cases (k : Int) pv off x0 x1 f hf (by omega)
      rw [e0] at HX
      rw [e0, e1] at hx
      have HC := Lib.hid hx
      have HPV : Hid (∀ W, Kd.C k72 W (some ad) l.length l → W.cell? ((ad.add (((k : Int) - 1).toNat * 2)).add 0) = some (.int .i64 (if 0 < k then pv else ((l.map (·.f0)).getD 0 0)))) := Lib.hid (fun W hW => by
        have hq : ((k : Int) - 1).toNat = k - 1 := by omega
        obtain ⟨ad', e', h⟩ := leap_at hW (k - 1) (by omega)
        cases e'
        rw [hq]
        have h1 := h 0 _ rfl
        by_cases h0 : 0 < k
        · obtain ⟨_, h2⟩ := HP.out h0
          rw [if_pos h0, ← h2]
          exact h1
        · rw [if_neg h0]
          have hk0 : k = 0 := by omega
          subst hk0
          rw [show (l.map (·.f0)).getD 0 0 = l[0].f0 by simp [List.getD_eq_getElem?_getD, hkl]]
          exact h1)
      have hI0 : inP x0 0 1099511627776 = true → 0 ≤ x0 ∧ x0 ≤ 1099511627776 := in_bd
      have hI1 : inP x1 (-32) 32 = true → -32 ≤ x1 ∧ x1 ≤ 32 := in_bd
      have HI0 := Lib.hid hI0
      have HI1 := Lib.hid hI1
      clear hI0 hI1 HS HP HD hx hxe e0 e1 hf
      generalize hki : (k : Int) = ki at hk1 hs1 hs2 HPV hcs ⊢
      have HKI := Lib.hid hki
      have hki0 : 0 ≤ ki := by omega
      have HQ : Hid (decide (0 < ki) = true → ∀ W, Kd.C k72 W (some ad) l.length l → W.cell? ((ad.add ((ki - 1).toNat * 2)).add 0) = some (.int .i64 pv)) := Lib.hid (fun h W hW => by
        have h0 : 0 < k := by have := of_decide_eq_true h; omega
        have := HPV.out W hW
        rw [if_pos h0] at this
        exact this)
      have HC1 : Hid (∀ j u, [Value.int .i64 x0, .int .i64 x1][j]? = some u → wr.cell? ((ad.add (ki.toNat * 2)).add j) = some u) := Lib.hid (by rw [show ki.toNat = k by have := HKI.out; omega]; exact HC.out)
      clear hki HPV HC
      obtain ⟨kj, hkj⟩ : ∃ kj, ki - 1 = kj := ⟨_, rfl⟩
      obtain ⟨ee, hee⟩ : ∃ ee, x0 - pv = ee := ⟨_, rfl⟩
      obtain ⟨dd, hdd⟩ : ∃ dd, x1 - off = dd := ⟨_, rfl⟩
      have hw1 : IntKind.i64.wrap (ki - 1) = kj := by rw [IntKind.wrap_i64]; omega
      rw [hee, hdd] at hcs
      rw [hkj] at HQ
      have HDD := Lib.hid (And.intro hkj (And.intro hee hdd))
      clear hkj hee hdd
      rcases hcs with ⟨rfl, d1⟩ | ⟨rfl, d1, d2⟩ | ⟨rfl, d1, d2, d3⟩ | ⟨rfl, d1, d2, d3, d4, d5⟩ | ⟨rfl, d1, d2, d3, d4, d5, d6⟩ | ⟨rfl, d1, d2, d3, d4, d5, d6, d7⟩ | ⟨rfl, d1, d2, d3, d4, d5⟩ | ⟨rfl, d1, d2, d3, d4, d5, d6⟩ | ⟨rfl, d1, d2, d3, d4, d5, d6⟩ | ⟨rfl, d1, d2, d3, d4, d5, d6, d7⟩
      all_goals
        try have HPV := Lib.hid (HQ.out (by assumption))
        try
          have q0 := HI0.out (by assumption)
          obtain ⟨q01, q02⟩ := q0
        try
          have q1 := HI1.out (by assumption)
          obtain ⟨q11, q12⟩ := q1
        try have hw2 : IntKind.i64.wrap (x0 - pv) = ee := by rw [IntKind.wrap_i64]; have := HDD.out; omega
        try have hw3 : IntKind.i64.wrap (x1 - off) = dd := by rw [IntKind.wrap_i64]; have := HDD.out; omega
        try have hw6 : (dd != 1) = false := by simp only [bne, ‹(dd == 1) = true›, Bool.not_true]
        try have hw7 : (dd != 1) = true := by simp only [bne, ‹(dd == 1) = false›, Bool.not_false]
        try have hw8 : (dd != -1) = false := by simp only [bne, ‹(dd == -1) = true›, Bool.not_true]
        try have hw9 : (dd != -1) = true := by simp only [bne, ‹(dd == -1) = false›, Bool.not_false]
        try have hw4 : 0 ≤ kj := by have := of_decide_eq_true ‹decide (0 < ki) = true›; have := HDD.out; omega
        try have hw5 : kj < (n : Int) := by have := HDD.out; omega
        go_wp2_with (first
          | ((with_reducible refine gate_dst (N := 12) rfl ?_); refine load_cells rfl rfl (ad := ad.add (ki.toNat * 2)) (cs := [.int .i64 x0, .int .i64 x1]) ?hx Tryz.underlying72 rfl (by kernel_rfl) HC1.out ?_; (case hx => first | rfl | (go_simp; done) | (go_simp; rfl)))
          | ((with_reducible refine gate_dst (N := 5) rfl ?_); refine nA #[.int .i64 0, .int .i64 0] 72 H ?_; intro g5 w5 H1; replace H := H1)
          | ((with_reducible refine gS rfl ?_); refine xS H ?_; intro w_ H1; replace H := H1)
          | ((with_reducible refine gL rfl ?_); refine xL H ?_)
          | fail)
        refine ko_region0 H (by kernel_rfl) (by as_aux_lemma => kernel_rfl) (fun HR => ?_)
        repeat ((first
          | ((with_reducible refine kg_call (f := 136) rfl ?_); refine yC 136 Tryz.func136 (fun W hC hd => WIn_calls _ _ _ _ _ _ (by first | exact depH.hd hd (by kernel_rfl) | exact depH.hd (depH.tl hd) (by kernel_rfl))) ?_)
            | ((with_reducible refine kg_dst (N := 40) rfl ?_); refine ko_cell rfl (by rfl) (by rfl) Tryz.underlying3 rfl (fun W hC => HPV.out W (HR W hC).now) ?_; (try simp only [Act.put, lsA, lsZ, lsS, Nat.reduceAdd]))
          | ((with_reducible refine kg_dst (N := 18) rfl ?_); refine yR ?_; intro x18)
          | ((with_reducible refine kg_dst (N := 25) rfl ?_); refine yR ?_; intro x25)
          | ((with_reducible refine kg_load rfl ?_); refine yL HR ?_)
          | (refine yP ?_)
          | (refine yO ?_)); (try simp only [Act.put, lsA, lsZ, lsS, Nat.reduceAdd]))
        refine ko_end ?_
        intro w1 H1
        clear HR H
        have H := H1
        clear H1
        (try simp only [List.map_cons, List.map_nil, cv, List.cons_append, List.nil_append] at H)
        go_wp2_with (first
          | ((with_reducible refine gate_dst (N := 5) rfl ?_); refine nA #[.int .i64 0, .int .i64 0] 72 H ?_; intro g5 w5 H1; replace H := H1)
          | ((with_reducible refine gS rfl ?_); refine xS H ?_; intro w_ H1; replace H := H1)
          | ((with_reducible refine gL rfl ?_); refine xL H ?_)
          | fail)
      any_goals
        have HF : Hid (r = false) := Lib.hid (by have := HS2.out; simpa using this.symm)
        go_ret
        exact ⟨(by rw [HF.out]; try rfl), H.below⟩
      all_goals
        have HSN : Hid (tbI (k + 1) x0 x1 (l.drop (k + 1)) = r) := Lib.hid (by have := HS2.out; simpa using this)
        go_roundw
        case rel =>
          refine ⟨k + 1, x0, x1, by omega, ?_, rfl, HSN, by omega, by omega, by omega, by omega, Lib.hid (fun _ => by simpa using HX.out), (H.drop).imp (fun _ h => h)⟩
          rw [← HKI.out]
          rfl
        case measure => rw [← HKI.out]; simp [intOf]; omega
    · obtain rfl : k = n := by omega
      have HT := Lib.hid (show r = true by rw [← HS.out, List.drop_eq_nil_of_le (by rw [HN.out]; exact Nat.le_refl _)]; rfl)
      go_wp2
      go_ret
      exact ⟨(by rw [HT.out]; try rfl), H.below⟩
end Go.Proofs.YtdaohldmojpihaaGreatDoor.G

namespace Go.Proofs.YtdaohldmojpihaaGreatDoor.G
open Go.RowKit Go.Proofs.YtdaohldmojpihaaGreatDoorW.PrintWords Go.Proofs.YtdaohldmojpihaaGreatDoorW.PrintLast Go.Proofs.YtdaohldmojpihaaGreatDoorW.PrintMore Go.Proofs.YtdaohldmojpihaaGreatDoorPl Go.Proofs.YtdaohldmojpihaaGreatDoorEm Go.Proofs.YtdaohldmojpihaaGreatDoorKr Go.Proofs.YtdaohldmojpihaaGreatDoor.X
set_option linter.unusedVariables false
set_option linter.unusedSimpArgs false
def whole (x : Lp) : Bool := (wrap64 (x.f0 - x.f1)).tmod 86400 == 0
def gd (l : List Lp) : Bool := tb l && l.all whole
theorem leap_row {w0 w : World} {A : Option Addr} {xs : List Lp} (h : Kd.C k72 w0 A xs.length xs) (hb : Below w0.heap.size w0 w) (k : Nat) (hk : k < xs.length) :
    ∃ ad, A = some ad ∧ ∀ j u, [Value.int .i64 xs[k].f0, .int .i64 xs[k].f1][j]? = some u → w.cell? ((ad.add (k * 2)).add j) = some u :=
  leap_at (Kd.C_below h hb) k hk
set_option maxRecDepth 100000 in
set_option maxHeartbeats 1000000 in
theorem day_calls (w : World) (x0 x1 : Int) : Calls Tryz.prog 90 #[.agg #[.int .i64 x0, .int .i64 x1]] w fun e w' => e = .returned (.bool (!whole ⟨x0, x1⟩)) ∧ Hid (Below w.heap.size w w') := by
  go_enter Tryz.func90, Tryz.ntmps90
  go_wp2
  go_ret
  exact ⟨rfl, Lib.hid (below_alloc (Below.refl _ _) _)⟩
theorem leap_row' {w0 w : World} {A : Option Addr} {xs : List Lp} (h : Kd.C k72 w0 A xs.length xs) (hb : Below w0.heap.size w0 w) (k : Nat) (hk : k < xs.length) (x0 x1 : Int) (e0 : xs[k].f0 = x0) (e1 : xs[k].f1 = x1) :
    ∃ ad, A = some ad ∧ Hid (∀ j u, [Value.int .i64 x0, .int .i64 x1][j]? = some u → w.cell? ((ad.add (k * 2)).add j) = some u) := by
  obtain ⟨ad, e, hx⟩ := leap_row h hb k hk
  rw [e0, e1] at hx
  exact ⟨ad, e, Lib.hid hx⟩
set_option maxRecDepth 100000 in
set_option maxHeartbeats 4000000 in
theorem IndexDay_calls (A : Option Addr) (c : Nat) (l : List Lp) (w : World) (hr : Kd.C k72 w A l.length l) :
    Calls Tryz.prog 137 #[.slice A l.length c, .func (.func 90) #[] #[]] w fun e w' => ∃ i : Int, e = .returned (.int .i64 i) ∧ Hid (decide (0 ≤ i) = !(l.all whole)) ∧ Hid (Below w.heap.size w w') := by
  have R := Lib.hid hr
  have hl : l.length ≤ 9223372036854775807 := hr.2.1
  obtain ⟨n, hn⟩ : ∃ n, l.length = n := ⟨_, rfl⟩
  have HN := Lib.hid hn
  rw [hn] at hl ⊢
  clear hr hn
  go_enter Tryz.func137, Tryz.ntmps137
  go_wp2
  go_loopw [8] (fun v8 wr => ∃ k : Nat, k ≤ n ∧ v8 = .int .i64 k ∧ Hid (∀ x ∈ l.take k, whole x = true) ∧ Hid (Below w.heap.size w wr)) (fun v8 _ => n - (intOf v8).toNat)
  case atStart => exact ⟨0, by omega, rfl, Lib.hid (fun x hx => by simp at hx), Lib.hid (Below.refl _ _)⟩
  case round =>
    obtain ⟨k, hk, rfl, HQ, HB⟩ := hrel
    by_cases hlt : k < n
    · have hkl : k < l.length := by rw [HN.out]; exact hlt
      have hk1 : (k : Int) < (n : Int) := by omega
      have hs1 : -9223372036854775808 ≤ (k : Int) + 1 := by omega
      have hs2 : (k : Int) + 1 ≤ 9223372036854775807 := by omega
      obtain ⟨x, hx⟩ : ∃ x, l[k] = x := ⟨_, rfl⟩
      obtain ⟨ad, e, HC⟩ := leap_row' R.out HB.out k hkl x.f0 x.f1 (by rw [hx]) (by rw [hx])
      cases e
      have HX : Hid (l.take (k + 1) = l.take k ++ [x]) := Lib.hid (by rw [List.take_succ_eq_append_getElem hkl, hx])
      have HM : Hid (x ∈ l) := Lib.hid (hx ▸ List.getElem_mem hkl)
      obtain ⟨b, hb⟩ : ∃ b, whole x = b := ⟨_, rfl⟩
      have HB2 := Lib.hid hb
      have HD : Hid (∀ W, Calls Tryz.prog 90 #[.agg #[.int .i64 x.f0, .int .i64 x.f1]] W fun e w' => e = .returned (.bool (!b)) ∧ Hid (Below W.heap.size W w')) := Lib.hid (fun W => hb ▸ day_calls W x.f0 x.f1)
      generalize x.f0 = x0 at HC HD
      generalize x.f1 = x1 at HC HD
      clear hx hb
      cases b with
      | true =>
        go_wp2_with (first
          | ((with_reducible refine gate_dst (N := 15) rfl ?_); refine load_cells rfl rfl (ad := ad.add (k * 2)) (cs := [.int .i64 x0, .int .i64 x1]) ?hx Tryz.underlying72 rfl (by kernel_rfl) HC.out ?_; (case hx => first | rfl | (go_simp; done) | (go_simp; rfl))))
        refine (HD.out _).mono ?_
        rintro e w' ⟨rfl, hb⟩
        go_wp2
        go_roundw
        case rel => exact ⟨k + 1, by omega, by simp, Lib.hid (fun y hy => by
          rw [HX.out] at hy
          rcases List.mem_append.1 hy with hy | hy
          · exact HQ.out y hy
          · rw [List.mem_singleton.1 hy]; exact HB2.out), Lib.hid (HB.out.trans (hb.out.mono HB.out.size))⟩
        case measure => simp [intOf]; omega
      | false =>
        go_wp2_with (first
          | ((with_reducible refine gate_dst (N := 15) rfl ?_); refine load_cells rfl rfl (ad := ad.add (k * 2)) (cs := [.int .i64 x0, .int .i64 x1]) ?hx Tryz.underlying72 rfl (by kernel_rfl) HC.out ?_; (case hx => first | rfl | (go_simp; done) | (go_simp; rfl))))
        refine (HD.out _).mono ?_
        rintro e w' ⟨rfl, hb⟩
        go_wp2
        go_ret
        refine ⟨_, rfl, Lib.hid ?_, Lib.hid (HB.out.trans (hb.out.mono HB.out.size))⟩
        have : l.all whole = false := by
          cases h : l.all whole with
          | false => rfl
          | true =>
            have := List.all_eq_true.1 h x HM.out
            rw [HB2.out] at this
            cases this
        rw [this]
        exact decide_eq_true (Int.natCast_nonneg k)
    · obtain rfl : k = n := by omega
      go_wp2
      go_ret
      refine ⟨_, rfl, Lib.hid ?_, HB⟩
      have : l.all whole = true := List.all_eq_true.2 (fun x hx => HQ.out x (by rw [List.take_of_length_le (by rw [HN.out]; exact Nat.le_refl _)]; exact hx))
      rw [this]
      rfl
set_option maxRecDepth 100000 in
set_option maxHeartbeats 4000000 in
theorem Contains_calls (A : Option Addr) (c : Nat) (l : List Lp) (w : World) (hr : Kd.C k72 w A l.length l) :
    Calls Tryz.prog 89 #[.slice A l.length c, .func (.func 90) #[] #[]] w fun e w' => e = .returned (.bool (!(l.all whole))) ∧ Hid (Below w.heap.size w w') := by
  have HI := Lib.hid (IndexDay_calls A c l w hr)
  obtain ⟨n, hn⟩ : ∃ n, l.length = n := ⟨_, rfl⟩
  rw [hn] at HI ⊢
  clear hr hn
  go_enter Tryz.func89, Tryz.ntmps89
  go_wp2_with (go_at_call 137; refine HI.out.mono ?_; rintro e w1 ⟨i, rfl, H1, HB⟩)
  go_ret
  exact ⟨by rw [← H1.out]; first | done | rfl, HB⟩
set_option maxRecDepth 100000 in
set_option maxHeartbeats 4000000 in
theorem Good_calls (A : Option Addr) (c : Nat) (l : List Lp) (w : World) (hr : Kd.C k72 w A l.length l) :
    Calls Tryz.prog 48 #[.slice A l.length c] w fun e w' => e = .returned (.bool (gd l)) ∧ Below w.heap.size w w' := by
  have HT := Lib.hid (Table_calls A c l w hr)
  have HC := Lib.hid (fun W (hb : Below w.heap.size w W) => Contains_calls A c l W (Kd.C_below hr hb))
  obtain ⟨n, hn⟩ : ∃ n, l.length = n := ⟨_, rfl⟩
  rw [hn] at HT HC ⊢
  obtain ⟨b, hb⟩ : ∃ b, tb l = b := ⟨_, rfl⟩
  obtain ⟨d, hd⟩ : ∃ d, l.all whole = d := ⟨_, rfl⟩
  have hg : gd l = (b && d) := by unfold gd; rw [hb, hd]
  rw [hb] at HT
  rw [hd] at HC
  rw [hg]
  clear hr hn hb hd hg
  cases b with
  | true =>
    go_enter Tryz.func48, Tryz.ntmps48
    go_wp2_with (first
      | (go_at_call 88; refine HT.out.mono ?_; rintro e w1 ⟨rfl, HB⟩; have HB := Lib.hid HB)
      | (go_at_call 89; refine (HC.out _ HB.out).mono ?_; rintro e w2 ⟨rfl, HB2⟩))
    go_ret
    exact ⟨by simp, HB.out.trans (HB2.out.mono HB.out.size)⟩
  | false =>
    go_enter Tryz.func48, Tryz.ntmps48
    go_wp2_with (go_at_call 88; refine HT.out.mono ?_; rintro e w1 ⟨rfl, HB⟩; have HB := Lib.hid HB)
    go_ret
    exact ⟨rfl, HB.out⟩
def flL (l : List Lp) : List Value := l.flatMap (fun x => [.int .i64 x.f0, .int .i64 x.f1])
theorem flL_length : ∀ l : List Lp, (flL l).length = l.length * 2
  | [] => rfl
  | x :: l => by
    show (.int .i64 x.f0 :: .int .i64 x.f1 :: flL l : List Value).length = _
    rw [List.length_cons, List.length_cons, flL_length l, List.length_cons]; omega
theorem flL_get : ∀ (l : List Lp) (j : Nat) (u : Value), (flL l)[j]? = some u → ∃ (k i : Nat) (hk : k < l.length), j = k * 2 + i ∧ [Value.int .i64 l[k].f0, .int .i64 l[k].f1][i]? = some u
  | [], j, u, h => by simp [flL] at h
  | x :: l, 0, u, h => ⟨0, 0, by simp, rfl, h⟩
  | x :: l, 1, u, h => ⟨0, 1, by simp, rfl, h⟩
  | x :: l, j + 2, u, h => by
    obtain ⟨k, i, hk, e, hu⟩ := flL_get l j u h
    exact ⟨k + 1, i, by simp; omega, by omega, hu⟩
theorem flL_one : ∀ (l : List Lp), ∀ u ∈ flL l, u.oneCell' = true := by
  intro l u hu
  unfold flL at hu
  rw [List.mem_flatMap] at hu
  obtain ⟨x, _, hx⟩ := hu
  simp at hx
  rcases hx with rfl | rfl <;> rfl
theorem cellsL {w : World} {ad : Addr} {l : List Lp} (h : Kd.C k72 w (some ad) l.length l) : ∀ j u, (flL l)[j]? = some u → w.cell? (ad.add j) = some u := by
  intro j u hu
  obtain ⟨k, i, hk, rfl, hi⟩ := flL_get l j u hu
  obtain ⟨ad', e, hx⟩ := leap_row h (Below.refl _ _) k hk
  cases e
  rw [← add_add]
  exact hx i u hi
theorem infoL : (Tryz.prog.info? 72).map (fun i => (i.zero, i.size, i.bytes)) = some (some (.agg #[.int .i64 0, .int .i64 0]), 2, 16) := by kernel_rfl
set_option maxRecDepth 100000 in
set_option maxHeartbeats 4000000 in
theorem Clone_calls (A : Option Addr) (c : Nat) (l : List Lp) (w : World) (hr : Kd.C k72 w A l.length l) (hl : l.length ≤ 4096) :
    Calls Tryz.prog 47 #[.slice A l.length c] w fun e w' => ∃ u, e = .returned u ∧ w'.ownsRow w.heap.size 72 2 u l.length (flL l) ∧ Below w.heap.size w w' := by
  obtain ⟨i0, hi0, hz0, hz1, hz2⟩ := info_parts infoL
  cases A with
  | none =>
    have h0 : l = [] := by
      cases l with
      | nil => rfl
      | cons x r =>
        obtain ⟨ad, e, _⟩ := leap_row hr (Below.refl _ _) 0 (by simp)
        cases e
    subst h0
    have hq : ∀ w, (binOp .eql 26 (.slice none 0 c) (.slice none 0 0)).run Tryz.prog w = .ok (.bool true) w := fun w => by rw [Lib.run_eql_slice_nil w 26 72 none 0 c 0 0 Tryz.underlying26]; rfl
    go_enter Tryz.func47, Tryz.ntmps47
    go_wp2
    go_ret
    exact ⟨_, rfl, World.ownsRow_nil _ _ _ _, Below.refl _ _⟩
  | some ad =>
    have HC := Lib.hid (cellsL hr)
    have HL := Lib.hid (flL_length l)
    have HO := Lib.hid (flL_one l)
    obtain ⟨n, hn⟩ : ∃ n, l.length = n := ⟨_, rfl⟩
    rw [hn] at HL hl ⊢
    clear hr hn
    generalize flL l = news at HC HL HO ⊢
    have hq : ∀ w, (binOp .eql 26 (.slice (some ad) n c) (.slice none 0 0)).run Tryz.prog w = .ok (.bool false) w := fun w => by rw [Lib.run_eql_slice_nil w 26 72 (some ad) n c 0 0 Tryz.underlying26]; rfl
    go_enter Tryz.func47, Tryz.ntmps47
    go_wp2_with (first
      | (at_builtin; refine wpList_append_own_at _ rfl _ _ 26 rfl w.heap.size 72 i0 (.agg #[.int .i64 0, .int .i64 0]) 2 16 Tryz.underlying26 hi0 hz0 hz1 hz2 rfl (by decide) (.slice (some ⟨w.heap.size, 0, none⟩) 0 0) 0 [] rfl ?ho ad n c news rfl HL.out ?hn HO.out (by unfold maxLen; omega) (by omega) (by simp) ?_; (case ho => exact ⟨by simp, .inr ⟨_, 0, #[], rfl, Nat.le_refl _, blk_new w _, Nat.le_refl _, by unfold maxLen; omega, rfl, rfl⟩⟩); (case hn => exact fun j u hu => pw_cell_below (below_alloc (Below.refl _ _) _) (HC.out j u hu)); intro u' w1 hown' hgrow hnil hat))
    go_ret
    refine ⟨u', rfl, ?_, ?_⟩
    · rw [Nat.zero_add, List.nil_append] at hown'
      exact hown'
    · exact (below_alloc (Below.refl _ _) _).grown hgrow (by simp) (fun k hk => by injection hk with hk; change w.heap.size = k at hk; omega)
end Go.Proofs.YtdaohldmojpihaaGreatDoor.G

namespace Go.Proofs.YtdaohldmojpihaaGreatDoor.G
open Go.RowKit Go.Proofs.YtdaohldmojpihaaGreatDoorW.PrintWords Go.Proofs.YtdaohldmojpihaaGreatDoorW.PrintLast Go.Proofs.YtdaohldmojpihaaGreatDoorW.PrintMore Go.Proofs.YtdaohldmojpihaaGreatDoorPl Go.Proofs.YtdaohldmojpihaaGreatDoorEm Go.Proofs.YtdaohldmojpihaaGreatDoorKr Go.Proofs.YtdaohldmojpihaaGreatDoorRz Go.Proofs.YtdaohldmojpihaaGreatDoor.X Go.Proofs.YtdaohldmojpihaaGreatDoorAy
set_option linter.unusedVariables false
set_option linter.unusedSimpArgs false
structure St where
  lo : Int
  hi : Int
  time : Int
  set : Bool
  held : Int
  hops : Int
  good : Bool
  tab : List Lp
  st : Int
  sn : Int
  life : Int
theorem row_C {W : World} {b n : Nat} {u : Value} {l : List Lp} (h : W.ownsRow b 72 2 u n (flL l)) (hn : l.length = n) : ∃ A c, u = .slice A n c ∧ n ≤ c ∧ Kd.C k72 W A n l ∧ (∀ ad, A = some ad → b ≤ ad.block) := by
  obtain ⟨h1, h2 | ⟨g, cap, cur, h2, h3, h4, h5, h6, h7, h8⟩⟩ := h
  · obtain ⟨h2, h3⟩ := h2
    exact ⟨none, 0, by rw [h2, h3], by omega, ⟨hn, by omega, fun h => by omega⟩, fun ad h => by cases h⟩
  · refine ⟨some ⟨g, 0, none⟩, cap, h2, h5, ⟨hn, by unfold maxLen at h6; omega, fun _ => ⟨_, rfl, fun j q hq => ?_⟩⟩, fun ad h => by cases h; exact h3⟩
    refine ⟨[.int .i64 q.f0, .int .i64 q.f1], rfl, k72_mk W q, fun i u hu => ?_⟩
    have hj : j < l.length := (List.getElem?_eq_some_iff.1 hq).1
    have hi : i < 2 := (List.getElem?_eq_some_iff.1 hu).1
    show W.cell? ((⟨g, 0, none⟩ : Addr).add (j * 2 + i)) = _
    rw [show ((⟨g, 0, none⟩ : Addr).add (j * 2 + i)) = ⟨g, j * 2 + i, none⟩ by
      unfold Addr.add
      split
      · rename_i h0; simp at h0; obtain ⟨e1, e2⟩ := h0; rw [show j * 2 + i = 0 by omega]
      · simp, blk_cell h4]
    have e : (flL l)[j * 2 + i]? = some u := flL_at l j i q u hq hu
    rw [← h8, List.getElem?_take] at e
    split at e
    · simpa using e
    · cases e
where
  flL_at : ∀ (l : List Lp) (j i : Nat) (q : Lp) (u : Value), l[j]? = some q → [Value.int .i64 q.f0, .int .i64 q.f1][i]? = some u → (flL l)[j * 2 + i]? = some u
    | [], j, i, q, u, h, _ => by simp at h
    | x :: l, 0, i, q, u, h, hu => by
      simp at h
      subst h
      rw [show 0 * 2 + i = i by omega]
      show ([Value.int .i64 x.f0, .int .i64 x.f1] ++ flL l)[i]? = some u
      rw [List.getElem?_append_left (List.getElem?_eq_some_iff.1 hu).1]
      exact hu
    | x :: l, j + 1, i, q, u, h, hu => by
      have := flL_at l j i q u (by simpa using h) hu
      rw [show (j + 1) * 2 + i = j * 2 + i + 1 + 1 by omega]
      exact this
theorem Tr_row {D : Nat → Prop} {W W' : World} {b : Nat} {e : TypeId} {sz n : Nat} {v : Value} {xs : List Value} (hD : ∀ k, D k → k < W.heap.size) (hb : b ≤ W.heap.size) (h : W'.ownsRow W.heap.size e sz v n xs) : Tr D W' (fun W1 => W1.ownsRow b e sz v n xs) := by
  intro W1 hW
  refine ⟨h.1, ?_⟩
  rcases h.2 with h2 | ⟨g, cap, cur, h2, h3, h4, h5⟩
  · exact .inl h2
  · refine .inr ⟨g, cap, cur, h2, Nat.le_trans hb h3, ?_, h5⟩
    rw [hW g (fun hk => by have := hD g hk; omega) (Go.Proofs.YtdaohldmojpihaaGreatDoorEm.obj_lt h4)]
    exact h4
def hollow (s : St) : Bool := decide (clip s.hi < clip s.lo)
def saneS (D : Int) (s : St) : St where
  lo := if hollow s = true then -2305843009213693952 else clip s.lo
  hi := if hollow s = true then 2305843009213693952 else clip s.hi
  time := clip s.time
  set := s.set
  held := bound s.held 0 1073741824
  hops := bound s.hops 0 (sadd [D, 1])
  good := if hollow s = true then false else s.good
  tab := if gd s.tab = true then s.tab else []
  st := if rightP s.st s.sn = true then s.st else clip s.time
  sn := if rightP s.st s.sn = true then s.sn else 0
  life := bound s.life 0 2305843009213693952
set_option maxRecDepth 100000 in
set_option maxHeartbeats 8000000 in
theorem Sane_calls (p : Par) (s : St) (A : Option Addr) (c : Nat) (w : World) (hr : Kd.C k72 w A s.tab.length s.tab) (hl : s.tab.length ≤ 4096) :
    Calls Tryz.prog 15 #[.agg #[.int .i64 p.N, .int .i64 p.F, .int .i64 p.D, .int .i64 p.Be, .int .i64 p.Rho, .int .i64 p.De, .int .i64 p.Ji, .int .i64 p.Eps, .int .i64 p.Mu, .int .i64 p.Ho, .int .i64 p.Pu, .int .i64 p.Se], .agg #[.int .i64 s.lo, .int .i64 s.hi, .int .i64 s.time, .bool s.set, .int .i64 s.held, .int .i64 s.hops, .bool s.good, .slice A s.tab.length c, .int .i64 s.st, .int .i64 s.sn, .int .i64 s.life]] w fun e w' => ∃ A' c', e = .returned (.agg #[.int .i64 (saneS p.D s).lo, .int .i64 (saneS p.D s).hi, .int .i64 (saneS p.D s).time, .bool (saneS p.D s).set, .int .i64 (saneS p.D s).held, .int .i64 (saneS p.D s).hops, .bool (saneS p.D s).good, .slice A' (saneS p.D s).tab.length c', .int .i64 (saneS p.D s).st, .int .i64 (saneS p.D s).sn, .int .i64 (saneS p.D s).life]) ∧ w'.ownsRow w.heap.size 72 2 (.slice A' (saneS p.D s).tab.length c') (saneS p.D s).tab.length (flL (saneS p.D s).tab) ∧ Below w.heap.size w w' := by
  obtain ⟨lo, hi, time, set, held, hops, good, tab, st, sn, life⟩ := s
  obtain ⟨bn, bf, D, be, rho, de, ji, eps, mu, ho, pu, se⟩ := p
  dsimp only at hr hl ⊢
  have H := Fr.start0 (M := fun _ => False) (A := fun _ => False) (w := w) (p := fun W => Kd.C k72 W A tab.length tab) (fun _ h => h.elim) (Go.Proofs.YtdaohldmojpihaaGreatDoorEv.Tr.of_C hr k72_heap)
  obtain ⟨n, hn⟩ : ∃ n, tab.length = n := ⟨_, rfl⟩
  obtain ⟨b, hb⟩ : ∃ b, decide (clip hi < clip lo) = b := ⟨_, rfl⟩
  obtain ⟨g, hg⟩ : ∃ g, gd tab = g := ⟨_, rfl⟩
  obtain ⟨r, hr2⟩ : ∃ r, rightP st sn = r := ⟨_, rfl⟩
  have HG := Lib.hid hg
  have HN := Lib.hid hn
  have HL := Lib.hid hl
  have HS : Hid (saneS D ⟨lo, hi, time, set, held, hops, good, tab, st, sn, life⟩ = ⟨if b = true then -2305843009213693952 else clip lo, if b = true then 2305843009213693952 else clip hi, clip time, set, bound held 0 1073741824, bound hops 0 (sadd [D, 1]), if b = true then false else good, if g = true then tab else [], if r = true then st else clip time, if r = true then sn else 0, bound life 0 2305843009213693952⟩) := Lib.hid (by
    unfold saneS hollow
    rw [← hb, ← hg, ← hr2])
  have HGD : Hid (∀ W A1 c1, Kd.C k72 W A1 n tab → Calls Tryz.prog 48 #[.slice A1 n c1] W fun e w' => e = .returned (.bool g) ∧ Below W.heap.size W w') := Lib.hid (fun W A1 c1 h => by
    have := Good_calls A1 c1 tab W (by rw [hn]; exact h)
    rw [hn, hg] at this
    exact this)
  have HCL : Hid (∀ W, Kd.C k72 W A tab.length tab → Calls Tryz.prog 47 #[.slice A n c] W fun e w' => ∃ u, e = .returned u ∧ w'.ownsRow W.heap.size 72 2 u n (flL tab) ∧ Below W.heap.size W w') := Lib.hid (fun W h => by
    have := Clone_calls A c tab W h hl
    rw [hn] at this
    exact this)
  have HM : Hid (∀ W, Calls Tryz.prog 43 #[.agg #[.int .i64 (clip lo), .int .i64 (clip hi)]] W fun e w' => e = .returned (.bool b) ∧ Below W.heap.size W w') := Lib.hid (fun W => hb ▸ Empty_calls _ _ W)
  have HR : Hid (∀ W, Calls Tryz.prog 49 #[.agg #[.int .i64 st, .int .i64 sn]] W fun e w' => e = .returned (.bool r) ∧ Below W.heap.size W w') := Lib.hid (fun W => hr2 ▸ Right_calls _ _ W)
  rw [HS.out]
  rw [hn]
  clear hr hl hn hb hg hr2
  go_enter Tryz.func15, Tryz.ntmps15
  cases b
  all_goals
    go_wp2_with (first
      | (go_at_call 42; (with_reducible refine (SpanOf_calls _ _ _).mono ?_); rintro e w' ⟨rfl, hb⟩; have H1 := H.call hb; clear hb; replace H := H1; clear H1)
      | (go_at_call 43; (with_reducible refine (HM.out _).mono ?_); rintro e w' ⟨rfl, hb⟩; have H1 := H.call hb; clear hb; replace H := H1; clear H1)
      | (go_at_call 44; (with_reducible refine (All_calls _).mono ?_); rintro e w' ⟨rfl, hb⟩; have H1 := H.call hb; clear hb; replace H := H1; clear H1)
      | ((with_reducible refine gate_dst (N := 2) rfl ?_); refine nB H ?_; intro g2 w2 H1; replace H := H1)
      | ((with_reducible refine gate_dst (N := 3) rfl ?_); refine nB H ?_; intro g3 w3 H1; replace H := H1)
      | ((with_reducible refine gate_dst (N := 4) rfl ?_); refine nA #[.int .i64 0, .int .i64 0, .int .i64 0, .bool false, .int .i64 0, .int .i64 0, .bool false, .slice none 0 0, .int .i64 0, .int .i64 0, .int .i64 0] 30 H ?_; intro g4 w4 H1; replace H := H1)
      | ((with_reducible refine gS rfl ?_); refine xS H ?_; intro w_ H1; replace H := H1)
      | ((with_reducible refine gL rfl ?_); refine xL H ?_)
      | fail)
    refine ro_start (Frs _ _ _ _ _) [14, 16, 18] [0, 1, 2, 3, 4, 5, 6, 7, 8, 9, 13, 10, 11, 12, 14, 15, 16, 17, 18] 19 (by kernel_rfl) (by rfl) (by simp only [pickR, List.getElem?_cons_succ, List.getElem?_cons_zero]; rfl) (by rfl) (H.drewN 1) (fun HS => ?_)
    have H1 : Fr _ _ _ _ _ _ := HS
    clear HS H
    have H := H1
    clear H1
    repeat ((first
      | ((with_reducible refine rz_call (f := 45) rfl ?_); refine ro_quiet 45 _ rfl (by kernel_rfl) (fun _ _ _ h => h) (by rfl) Tryz.func45 (by kernel_rfl) rfl (by simp only [List.map_toArray, List.map_cons, List.map_nil]; rfl) H (fun w _ => Clip_calls _ _) ?_; (try simp only [Act.put, lsA, lsZ, lsS, Nat.reduceAdd]))
      | ((with_reducible refine rz_call (f := 46) rfl ?_); refine ro_quiet 46 _ rfl (by kernel_rfl) (fun _ _ _ h => h) (by rfl) Tryz.func46 (by kernel_rfl) rfl (by simp only [List.map_toArray, List.map_cons, List.map_nil]; rfl) H (fun w _ => Bound_calls _ _ _ _) ?_; (try simp only [Act.put, lsA, lsZ, lsS, Nat.reduceAdd]))
      | ((with_reducible refine rz_call (f := 40) rfl ?_); refine ro_call 40 _ rfl (by kernel_rfl) (by kernel_rfl) (by rfl) Tryz.func40 (by kernel_rfl) rfl (by simp only [List.map_toArray, List.map_cons, List.map_nil]; rfl) ?_; (refine (Add2 hx29).mono ?_); rintro e w' ⟨rfl, hb⟩; have H1 := H.call hb; refine ⟨_, rfl, H1, fun _ => ?_⟩; clear hb; replace H := H1; clear H1; (try simp only [Act.put, lsA, lsZ, lsS, Nat.reduceAdd]))
      | ((with_reducible refine rz_dst (N := 29) rfl ?_); refine zR H ?_; intro x29 w1 hx29 H1; replace H := H1)
      | ((with_reducible refine rz_load rfl ?_); refine zL H ?_)
      | ((with_reducible refine rz_store rfl ?_); refine zS H ?_; intro w1 H1; replace H := H1)
      | (refine zO ?_)
      | (refine zP ?_)); (try simp only [Act.put, lsA, lsZ, lsS, Nat.reduceAdd]))
    refine ro_done (by kernel_rfl) ?_
    go_wp2_with (first
      | (go_at_call 46; (with_reducible refine (ret_below (Bound_calls _ _ _ _)).mono ?_); rintro e w' ⟨rfl, hb⟩; have H1 := H.call hb; clear hb; replace H := H1; clear H1)
      | (go_at_call 47; (with_reducible refine (HCL.out _ H.now).mono ?_); rintro e w' ⟨u, rfl, ho, hb⟩; obtain ⟨A1, c1, rfl, hc1, _⟩ := row_C ho HN.out; have H1 := H.call2 hb (Tr_row H.avs H.chg.size ho); clear hb ho; replace H := H1; clear H1)
      | ((with_reducible refine gate_dst (N := 2) rfl ?_); refine nB H ?_; intro g2 w2 H1; replace H := H1)
      | ((with_reducible refine gate_dst (N := 3) rfl ?_); refine nB H ?_; intro g3 w3 H1; replace H := H1)
      | ((with_reducible refine gate_dst (N := 4) rfl ?_); refine nA #[.int .i64 0, .int .i64 0, .int .i64 0, .bool false, .int .i64 0, .int .i64 0, .bool false, .slice none 0 0, .int .i64 0, .int .i64 0, .int .i64 0] 30 H ?_; intro g4 w4 H1; replace H := H1)
      | ((with_reducible refine gS rfl ?_); refine xS H ?_; intro w_ H1; replace H := H1)
      | ((with_reducible refine gL rfl ?_); refine xL H ?_)
      | fail)
    cases g
    all_goals
      go_wp2_with (first
        | (go_at_call 48; have hrow := row_C H.now.2 HN.out; obtain ⟨A2, c2, e2, _, hrow, _⟩ := hrow; cases e2; (with_reducible refine (HGD.out _ _ _ hrow).mono ?_); rintro e w' ⟨rfl, hb⟩; have H1 := H.call hb; clear hb hrow; replace H := H1; clear H1)
        | ((with_reducible refine gate_dst (N := 2) rfl ?_); refine nB H ?_; intro g2 w2 H1; replace H := H1)
        | ((with_reducible refine gate_dst (N := 3) rfl ?_); refine nB H ?_; intro g3 w3 H1; replace H := H1)
        | ((with_reducible refine gate_dst (N := 4) rfl ?_); refine nA #[.int .i64 0, .int .i64 0, .int .i64 0, .bool false, .int .i64 0, .int .i64 0, .bool false, .slice none 0 0, .int .i64 0, .int .i64 0, .int .i64 0] 30 H ?_; intro g4 w4 H1; replace H := H1)
        | ((with_reducible refine gS rfl ?_); refine xS H ?_; intro w_ H1; replace H := H1)
        | ((with_reducible refine gL rfl ?_); refine xL H ?_)
        | fail)
      cases r
      all_goals
        go_wp2_with (first
          | (go_at_call 49; (with_reducible refine (HR.out _).mono ?_); rintro e w' ⟨rfl, hb⟩; have H1 := H.call hb; clear hb; replace H := H1; clear H1)
          | ((with_reducible refine gate_dst (N := 2) rfl ?_); refine nB H ?_; intro g2 w2 H1; replace H := H1)
          | ((with_reducible refine gate_dst (N := 3) rfl ?_); refine nB H ?_; intro g3 w3 H1; replace H := H1)
          | ((with_reducible refine gate_dst (N := 4) rfl ?_); refine nA #[.int .i64 0, .int .i64 0, .int .i64 0, .bool false, .int .i64 0, .int .i64 0, .bool false, .slice none 0 0, .int .i64 0, .int .i64 0, .int .i64 0] 30 H ?_; intro g4 w4 H1; replace H := H1)
          | ((with_reducible refine gS rfl ?_); refine xS H ?_; intro w_ H1; replace H := H1)
          | ((with_reducible refine gL rfl ?_); refine xL H ?_)
          | fail)
        refine bodyPost_ret (results_c rfl _ _ g4 30 _ (0, 0) _ rfl (H.of (by repeat (first | exact At.head | apply At.tail))) Tryz.underlying30 rfl (by kernel_rfl)) rfl ?_
        first
          | exact ⟨none, 0, rfl, World.ownsRow_nil _ _ _ _, H.below⟩
          | exact ⟨A1, c1, by rw [HN.out], by rw [HN.out]; exact H.now.2, H.below⟩
theorem Tr_own {D : Nat → Prop} {W : World} {b b' : Nat} {e : TypeId} {sz n c : Nat} {A : Option Addr} {xs : List Value} (h : W.ownsRow b e sz (.slice A n c) n xs) (hb : b' ≤ b) (hD : ∀ k ad, D k → A = some ad → k ≠ ad.block) : Tr D W (fun W1 => W1.ownsRow b' e sz (.slice A n c) n xs) := by
  intro W1 hW
  refine ⟨h.1, ?_⟩
  rcases h.2 with h2 | ⟨g, cap, cur, h2, h3, h4, h5⟩
  · exact .inl h2
  · refine .inr ⟨g, cap, cur, h2, Nat.le_trans hb h3, ?_, h5⟩
    injection h2 with e1
    rw [hW g (fun hk => hD g _ hk e1 rfl) (Go.Proofs.YtdaohldmojpihaaGreatDoorEm.obj_lt h4)]
    exact h4
theorem own_lo {W : World} {b : Nat} {e : TypeId} {sz n c : Nat} {A : Option Addr} {xs : List Value} (h : W.ownsRow b e sz (.slice A n c) n xs) (ad : Addr) (ha : A = some ad) : b ≤ ad.block ∧ ad.block < W.heap.size := by
  rcases h.2 with ⟨h2, _⟩ | ⟨g, cap, cur, h2, h3, h4, h5⟩
  · injection h2 with e1
    rw [ha] at e1
    cases e1
  · injection h2 with e1
    rw [ha] at e1
    cases e1
    exact ⟨h3, Go.Proofs.YtdaohldmojpihaaGreatDoorEm.obj_lt h4⟩
end Go.Proofs.YtdaohldmojpihaaGreatDoor.G
