/- Texts Gd, Ge, Gf, Gg, Gh, Gt, in one file, without what is not needed here. -/
import Derived.Test.YtbmfgcekglgliaaGreatZGateKeeps2
namespace Go.Proofs.YtbmfgcekglgliaaGreat.G
open Go.RowKit Go.Proofs.YtbmfgcekglgliaaGreatW.PrintWords Go.Proofs.YtbmfgcekglgliaaGreatW.PrintLast Go.Proofs.YtbmfgcekglgliaaGreatW.PrintMore Go.Proofs.YtbmfgcekglgliaaGreatPl Go.Proofs.YtbmfgcekglgliaaGreatEm Go.Proofs.YtbmfgcekglgliaaGreatKr
set_option linter.unusedVariables false
set_option linter.unusedSimpArgs false
def wayP (p : Par) (a b age : Int) : Int × Int := (sadd [a, sadd [ssub p.De p.Ji, age, sneg p.Rho]], sadd [b, sadd [p.De, age, p.Rho]])
def hopP (p : Par) : Int := sadd [p.Ji, smul 2 p.Rho]
def gateP (p : Par) : Int := smul 2 (sadd [smul 2 p.Eps, hopP p])
def widthP (p : Par) (held hops : Int) : Int := sadd [gateP p, smul (smul 2 p.Rho) held, smul (sadd [hops, 1]) (hopP p)]
def farP (p : Par) (held : Int) : Int := smul 2 (widthP p (smax [held, p.Ho]) p.D)
set_option maxHeartbeats 4000000 in
set_option maxRecDepth 100000 in
theorem Way_calls (p : Par) (a b age : Int) (w : World) : Calls Tryz.prog 31 #[.agg #[.int .i64 p.N, .int .i64 p.F, .int .i64 p.D, .int .i64 p.Be, .int .i64 p.Rho, .int .i64 p.De, .int .i64 p.Ji, .int .i64 p.Eps, .int .i64 p.Mu, .int .i64 p.Ho, .int .i64 p.Pu, .int .i64 p.Se], .agg #[.int .i64 a, .int .i64 b], .int .i64 age] w fun e w' => e = .returned (.agg #[.int .i64 (wayP p a b age).1, .int .i64 (wayP p a b age).2]) ∧ Below w.heap.size w w' := by
  have H := Fr.start0 (M := fun _ => False) (A := fun _ => False) (w := w) (p := fun _ => True) (fun _ h => h.elim) (fun _ _ => trivial)
  go_enter Tryz.func31, Tryz.ntmps31
  go_wp2_with (first
    | ((with_reducible refine gate_dst (N := 3) rfl ?_); refine fr_box H rfl rfl rfl ?_; intro g3 w3 H1; replace H := H1; clear H1)
    | ((with_reducible refine gate_dst (N := 4) rfl ?_); refine fr_box H rfl rfl rfl ?_; intro g4 w4 H1; replace H := H1; clear H1)
    | ((with_reducible refine gate_dst (N := 6) rfl ?_); refine fr_new H (N := 6) rfl rfl (cs := #[.int .i64 0, .int .i64 0]) (t := 25) ?hr ?_; (case hr => first | (go_simp; done) | (go_simp; rfl)); intro g6 w6 H1; replace H := H1; clear H1)
    | fail)
  refine ko_region1 H (by simp only [List.length_cons, List.length_nil, Nat.reduceAdd]; rfl) (g := g6) (by repeat (first | exact Take.head | apply Take.tail)) (by kernel_rfl) (by as_aux_lemma => kernel_rfl) (fun HR => ?_)
  repeat (first
    | ((with_reducible refine kg_call (f := 52) rfl ?_); refine ko_call 52 _ rfl (by rfl) Tryz.func52 (by kernel_rfl) rfl (by kernel_rfl) (by simp only [List.map_toArray, List.map_cons, List.map_nil]; rfl) (fun W hC hd => Add2 (by first | exact depH.hd hd (by kernel_rfl) | exact depH.hd (depH.tl hd) (by kernel_rfl) | exact depH.hd (depH.tl (depH.tl hd)) (by kernel_rfl))) ?_; (try simp only [Act.put, lsA, lsZ, lsS, Nat.reduceAdd]))
    | ((with_reducible refine kg_call (f := 52) rfl ?_); refine ko_call 52 _ rfl (by rfl) Tryz.func52 (by kernel_rfl) rfl (by kernel_rfl) (by simp only [List.map_toArray, List.map_cons, List.map_nil]; rfl) (fun W hC hd => Add3 (by first | exact depH.hd hd (by kernel_rfl) | exact depH.hd (depH.tl hd) (by kernel_rfl) | exact depH.hd (depH.tl (depH.tl hd)) (by kernel_rfl))) ?_; (try simp only [Act.put, lsA, lsZ, lsS, Nat.reduceAdd]))
    | ((with_reducible refine kg_call (f := 58) rfl ?_); refine ko_call 58 _ rfl (by rfl) Tryz.func58 (by kernel_rfl) rfl (by kernel_rfl) (by simp only [List.map_toArray, List.map_cons, List.map_nil]; rfl) (fun W hC hd => ret_below (Sub_calls _ _ _)) ?_; (try simp only [Act.put, lsA, lsZ, lsS, Nat.reduceAdd]))
    | ((with_reducible refine kg_call (f := 60) rfl ?_); refine ko_call 60 _ rfl (by rfl) Tryz.func60 (by kernel_rfl) rfl (by kernel_rfl) (by simp only [List.map_toArray, List.map_cons, List.map_nil]; rfl) (fun W hC hd => ret_below (Neg_calls _ _)) ?_; (try simp only [Act.put, lsA, lsZ, lsS, Nat.reduceAdd]))
    | ((with_reducible refine kg_call (f := 59) rfl ?_); refine ko_call 59 _ rfl (by rfl) Tryz.func59 (by kernel_rfl) rfl (by kernel_rfl) (by simp only [List.map_toArray, List.map_cons, List.map_nil]; rfl) (fun W hC hd => Shift_calls _ _ _ _ _) ?_; (try simp only [Act.put, lsA, lsZ, lsS, Nat.reduceAdd]))
    | ((with_reducible refine kg_load (ty := 25) rfl ?_); refine ko_sub HR (n := 2) rfl (by rfl) (by rfl) (by repeat (first | exact At.head | apply At.tail)) Tryz.underlying25 rfl (by kernel_rfl) (by simp only [List.toList_toArray, List.drop_succ_cons, List.drop_zero, List.take_succ_cons, List.take_zero]; rfl) (by rfl) ?_; (try simp only [Act.put, lsA, lsZ, lsS, Nat.reduceAdd]))
    | ((with_reducible refine kg_load (ty := 3) rfl ?_); refine ko_get HR rfl (by rfl) (by rfl) (by repeat (first | exact At.head | apply At.tail)) Tryz.underlying3 rfl (by simp only [List.getElem?_toArray, List.getElem?_cons_succ, List.getElem?_cons_zero]; rfl) ?_; (try simp only [Act.put, lsA, lsZ, lsS, Nat.reduceAdd]))
    | ((with_reducible refine kg_dst (N := 17) rfl ?_); refine ko_row rfl (by rfl) (fun W K hK => by go_simp; exact hK.out) ?_; intro x17; (try simp only [Act.put, lsA, lsZ, lsS, Nat.reduceAdd]))
    | ((with_reducible refine kg_dst (N := 24) rfl ?_); refine ko_row rfl (by rfl) (fun W K hK => by go_simp; exact hK.out) ?_; intro x24; (try simp only [Act.put, lsA, lsZ, lsS, Nat.reduceAdd]))
    | ((with_reducible refine kg_store (ty := 25) rfl ?_); refine ko_put (u := .agg (List.toArray _)) rfl rfl (by rfl) (by rfl) (by rfl) (by repeat (first | exact VarAt.head | apply VarAt.tail)) (by kernel_rfl) (Nat.le_of_ble_eq_true rfl) (by simp only [Value.cells, List.take_succ_cons, List.take_zero, List.drop_succ_cons, List.drop_zero, List.cons_append, List.nil_append, List.length_cons, List.length_nil, Nat.reduceAdd, List.append_nil, List.drop_nil, List.take_nil]; rfl) (by repeat (first | exact VarAt.head | apply VarAt.tail)) (by simp [apartR, Value.cells]) (by kernel_rfl) (by simp [Value.cells, Value.oneCell']) ?_; (try simp only [Value.cells, List.length_cons, List.length_nil, Nat.reduceAdd]))
    | (refine ko_pure rfl (by rfl) (fun W K hK => by go_simp; exact hK.out) ?_; (try simp only [Act.put, lsA, lsZ, lsS, Nat.reduceAdd]))
    | (refine ko_off (by rfl) ?_; (try simp only [Act.put, lsA, lsZ, lsS, Nat.reduceAdd])))
  refine ko_end ?_
  intro w1 H1
  clear HR H
  have H := H1
  clear H1
  (try simp only [List.map_cons, List.map_nil, cv, List.cons_append, List.nil_append] at H)
  go_wp2
  refine bodyPost_ret (results_c rfl _ _ g6 25 _ (0, 0) _ rfl (H.of (by repeat (first | exact At.head | apply At.tail))) Tryz.underlying25 rfl (by kernel_rfl)) rfl ?_
  exact ⟨rfl, H.below⟩
set_option maxHeartbeats 4000000 in
set_option maxRecDepth 100000 in
theorem Hop_calls (p : Par) (w : World) : Calls Tryz.prog 106 #[.agg #[.int .i64 p.N, .int .i64 p.F, .int .i64 p.D, .int .i64 p.Be, .int .i64 p.Rho, .int .i64 p.De, .int .i64 p.Ji, .int .i64 p.Eps, .int .i64 p.Mu, .int .i64 p.Ho, .int .i64 p.Pu, .int .i64 p.Se]] w fun e w' => e = .returned (.int .i64 (hopP p)) ∧ Below w.heap.size w w' := by
  have H := Fr.start0 (M := fun _ => False) (A := fun _ => False) (w := w) (p := fun _ => True) (fun _ h => h.elim) (fun _ _ => trivial)
  go_enter Tryz.func106, Tryz.ntmps106
  go_wp2_with (first
    | ((with_reducible refine gate_dst (N := 1) rfl ?_); refine fr_box H rfl rfl rfl ?_; intro g1 w1 H1; replace H := H1; clear H1)
    | fail)
  refine ko_region0 H (by kernel_rfl) (by as_aux_lemma => kernel_rfl) (fun HR => ?_)
  repeat (first
    | ((with_reducible refine kg_call (f := 52) rfl ?_); refine ko_call 52 _ rfl (by rfl) Tryz.func52 (by kernel_rfl) rfl (by kernel_rfl) (by simp only [List.map_toArray, List.map_cons, List.map_nil]; rfl) (fun W hC hd => Add2 (by first | exact depH.hd hd (by kernel_rfl) | exact depH.hd (depH.tl hd) (by kernel_rfl) | exact depH.hd (depH.tl (depH.tl hd)) (by kernel_rfl))) ?_; (try simp only [Act.put, lsA, lsZ, lsS, Nat.reduceAdd]))
    | ((with_reducible refine kg_call (f := 52) rfl ?_); refine ko_call 52 _ rfl (by rfl) Tryz.func52 (by kernel_rfl) rfl (by kernel_rfl) (by simp only [List.map_toArray, List.map_cons, List.map_nil]; rfl) (fun W hC hd => Add3 (by first | exact depH.hd hd (by kernel_rfl) | exact depH.hd (depH.tl hd) (by kernel_rfl) | exact depH.hd (depH.tl (depH.tl hd)) (by kernel_rfl))) ?_; (try simp only [Act.put, lsA, lsZ, lsS, Nat.reduceAdd]))
    | ((with_reducible refine kg_call (f := 92) rfl ?_); refine ko_call 92 _ rfl (by rfl) Tryz.func92 (by kernel_rfl) rfl (by kernel_rfl) (by simp only [List.map_toArray, List.map_cons, List.map_nil]; rfl) (fun W hC hd => ret_below (Mul_calls _ _ _)) ?_; (try simp only [Act.put, lsA, lsZ, lsS, Nat.reduceAdd]))
    | ((with_reducible refine kg_load (ty := 3) rfl ?_); refine ko_get HR rfl (by rfl) (by rfl) (by repeat (first | exact At.head | apply At.tail)) Tryz.underlying3 rfl (by simp only [List.getElem?_toArray, List.getElem?_cons_succ, List.getElem?_cons_zero]; rfl) ?_; (try simp only [Act.put, lsA, lsZ, lsS, Nat.reduceAdd]))
    | ((with_reducible refine kg_dst (N := 8) rfl ?_); refine ko_row rfl (by rfl) (fun W K hK => by go_simp; exact hK.out) ?_; intro x8; (try simp only [Act.put, lsA, lsZ, lsS, Nat.reduceAdd]))
    | (refine ko_pure rfl (by rfl) (fun W K hK => by go_simp; exact hK.out) ?_; (try simp only [Act.put, lsA, lsZ, lsS, Nat.reduceAdd]))
    | (refine ko_off (by rfl) ?_; (try simp only [Act.put, lsA, lsZ, lsS, Nat.reduceAdd])))
  refine ko_end ?_
  intro w1 H1
  clear HR H
  have H := H1
  clear H1
  (try simp only [List.map_cons, List.map_nil, cv, List.cons_append, List.nil_append] at H)
  go_wp2
  go_ret
  exact ⟨rfl, H.below⟩
set_option maxHeartbeats 4000000 in
set_option maxRecDepth 100000 in
theorem Gate_calls (p : Par) (w : World) : Calls Tryz.prog 105 #[.agg #[.int .i64 p.N, .int .i64 p.F, .int .i64 p.D, .int .i64 p.Be, .int .i64 p.Rho, .int .i64 p.De, .int .i64 p.Ji, .int .i64 p.Eps, .int .i64 p.Mu, .int .i64 p.Ho, .int .i64 p.Pu, .int .i64 p.Se]] w fun e w' => e = .returned (.int .i64 (gateP p)) ∧ Below w.heap.size w w' := by
  have H := Fr.start0 (M := fun _ => False) (A := fun _ => False) (w := w) (p := fun _ => True) (fun _ h => h.elim) (fun _ _ => trivial)
  go_enter Tryz.func105, Tryz.ntmps105
  go_wp2_with (first
    | ((with_reducible refine gate_dst (N := 1) rfl ?_); refine fr_box H rfl rfl rfl ?_; intro g1 w1 H1; replace H := H1; clear H1)
    | fail)
  refine ko_region0 H (by kernel_rfl) (by as_aux_lemma => kernel_rfl) (fun HR => ?_)
  repeat (first
    | ((with_reducible refine kg_call (f := 52) rfl ?_); refine ko_call 52 _ rfl (by rfl) Tryz.func52 (by kernel_rfl) rfl (by kernel_rfl) (by simp only [List.map_toArray, List.map_cons, List.map_nil]; rfl) (fun W hC hd => Add2 (by first | exact depH.hd hd (by kernel_rfl) | exact depH.hd (depH.tl hd) (by kernel_rfl) | exact depH.hd (depH.tl (depH.tl hd)) (by kernel_rfl))) ?_; (try simp only [Act.put, lsA, lsZ, lsS, Nat.reduceAdd]))
    | ((with_reducible refine kg_call (f := 52) rfl ?_); refine ko_call 52 _ rfl (by rfl) Tryz.func52 (by kernel_rfl) rfl (by kernel_rfl) (by simp only [List.map_toArray, List.map_cons, List.map_nil]; rfl) (fun W hC hd => Add3 (by first | exact depH.hd hd (by kernel_rfl) | exact depH.hd (depH.tl hd) (by kernel_rfl) | exact depH.hd (depH.tl (depH.tl hd)) (by kernel_rfl))) ?_; (try simp only [Act.put, lsA, lsZ, lsS, Nat.reduceAdd]))
    | ((with_reducible refine kg_call (f := 92) rfl ?_); refine ko_call 92 _ rfl (by rfl) Tryz.func92 (by kernel_rfl) rfl (by kernel_rfl) (by simp only [List.map_toArray, List.map_cons, List.map_nil]; rfl) (fun W hC hd => ret_below (Mul_calls _ _ _)) ?_; (try simp only [Act.put, lsA, lsZ, lsS, Nat.reduceAdd]))
    | ((with_reducible refine kg_call (f := 106) rfl ?_); refine ko_call 106 _ rfl (by rfl) Tryz.func106 (by kernel_rfl) rfl (by kernel_rfl) (by simp only [List.map_toArray, List.map_cons, List.map_nil]; rfl) (fun W hC hd => Hop_calls p _) ?_; (try simp only [Act.put, lsA, lsZ, lsS, Nat.reduceAdd]))
    | ((with_reducible refine kg_load (ty := 3) rfl ?_); refine ko_get HR rfl (by rfl) (by rfl) (by repeat (first | exact At.head | apply At.tail)) Tryz.underlying3 rfl (by simp only [List.getElem?_toArray, List.getElem?_cons_succ, List.getElem?_cons_zero]; rfl) ?_; (try simp only [Act.put, lsA, lsZ, lsS, Nat.reduceAdd]))
    | ((with_reducible refine kg_load (ty := 23) rfl ?_); refine ko_sub HR (n := 12) rfl (by rfl) (by rfl) (by repeat (first | exact At.head | apply At.tail)) Tryz.underlying23 rfl (by kernel_rfl) (by simp only [List.toList_toArray, List.drop_succ_cons, List.drop_zero, List.take_succ_cons, List.take_zero]; rfl) (by rfl) ?_; (try simp only [Act.put, lsA, lsZ, lsS, Nat.reduceAdd]))
    | ((with_reducible refine kg_dst (N := 8) rfl ?_); refine ko_row rfl (by rfl) (fun W K hK => by go_simp; exact hK.out) ?_; intro x8; (try simp only [Act.put, lsA, lsZ, lsS, Nat.reduceAdd]))
    | (refine ko_pure rfl (by rfl) (fun W K hK => by go_simp; exact hK.out) ?_; (try simp only [Act.put, lsA, lsZ, lsS, Nat.reduceAdd]))
    | (refine ko_off (by rfl) ?_; (try simp only [Act.put, lsA, lsZ, lsS, Nat.reduceAdd])))
  refine ko_end ?_
  intro w1 H1
  clear HR H
  have H := H1
  clear H1
  (try simp only [List.map_cons, List.map_nil, cv, List.cons_append, List.nil_append] at H)
  go_wp2
  go_ret
  exact ⟨rfl, H.below⟩
set_option maxHeartbeats 4000000 in
set_option maxRecDepth 100000 in
theorem Width_calls (p : Par) (held hops : Int) (w : World) : Calls Tryz.prog 93 #[.agg #[.int .i64 p.N, .int .i64 p.F, .int .i64 p.D, .int .i64 p.Be, .int .i64 p.Rho, .int .i64 p.De, .int .i64 p.Ji, .int .i64 p.Eps, .int .i64 p.Mu, .int .i64 p.Ho, .int .i64 p.Pu, .int .i64 p.Se], .int .i64 held, .int .i64 hops] w fun e w' => e = .returned (.int .i64 (widthP p held hops)) ∧ Below w.heap.size w w' := by
  have H := Fr.start0 (M := fun _ => False) (A := fun _ => False) (w := w) (p := fun _ => True) (fun _ h => h.elim) (fun _ _ => trivial)
  go_enter Tryz.func93, Tryz.ntmps93
  go_wp2_with (first
    | ((with_reducible refine gate_dst (N := 3) rfl ?_); refine fr_box H rfl rfl rfl ?_; intro g3 w3 H1; replace H := H1; clear H1)
    | fail)
  refine ko_region0 H (by kernel_rfl) (by as_aux_lemma => kernel_rfl) (fun HR => ?_)
  repeat (first
    | ((with_reducible refine kg_call (f := 52) rfl ?_); refine ko_call 52 _ rfl (by rfl) Tryz.func52 (by kernel_rfl) rfl (by kernel_rfl) (by simp only [List.map_toArray, List.map_cons, List.map_nil]; rfl) (fun W hC hd => Add2 (by first | exact depH.hd hd (by kernel_rfl) | exact depH.hd (depH.tl hd) (by kernel_rfl) | exact depH.hd (depH.tl (depH.tl hd)) (by kernel_rfl))) ?_; (try simp only [Act.put, lsA, lsZ, lsS, Nat.reduceAdd]))
    | ((with_reducible refine kg_call (f := 52) rfl ?_); refine ko_call 52 _ rfl (by rfl) Tryz.func52 (by kernel_rfl) rfl (by kernel_rfl) (by simp only [List.map_toArray, List.map_cons, List.map_nil]; rfl) (fun W hC hd => Add3 (by first | exact depH.hd hd (by kernel_rfl) | exact depH.hd (depH.tl hd) (by kernel_rfl) | exact depH.hd (depH.tl (depH.tl hd)) (by kernel_rfl))) ?_; (try simp only [Act.put, lsA, lsZ, lsS, Nat.reduceAdd]))
    | ((with_reducible refine kg_call (f := 92) rfl ?_); refine ko_call 92 _ rfl (by rfl) Tryz.func92 (by kernel_rfl) rfl (by kernel_rfl) (by simp only [List.map_toArray, List.map_cons, List.map_nil]; rfl) (fun W hC hd => ret_below (Mul_calls _ _ _)) ?_; (try simp only [Act.put, lsA, lsZ, lsS, Nat.reduceAdd]))
    | ((with_reducible refine kg_call (f := 106) rfl ?_); refine ko_call 106 _ rfl (by rfl) Tryz.func106 (by kernel_rfl) rfl (by kernel_rfl) (by simp only [List.map_toArray, List.map_cons, List.map_nil]; rfl) (fun W hC hd => Hop_calls p _) ?_; (try simp only [Act.put, lsA, lsZ, lsS, Nat.reduceAdd]))
    | ((with_reducible refine kg_call (f := 105) rfl ?_); refine ko_call 105 _ rfl (by rfl) Tryz.func105 (by kernel_rfl) rfl (by kernel_rfl) (by simp only [List.map_toArray, List.map_cons, List.map_nil]; rfl) (fun W hC hd => Gate_calls p _) ?_; (try simp only [Act.put, lsA, lsZ, lsS, Nat.reduceAdd]))
    | ((with_reducible refine kg_load (ty := 23) rfl ?_); refine ko_sub HR (n := 12) rfl (by rfl) (by rfl) (by repeat (first | exact At.head | apply At.tail)) Tryz.underlying23 rfl (by kernel_rfl) (by simp only [List.toList_toArray, List.drop_succ_cons, List.drop_zero, List.take_succ_cons, List.take_zero]; rfl) (by rfl) ?_; (try simp only [Act.put, lsA, lsZ, lsS, Nat.reduceAdd]))
    | ((with_reducible refine kg_load (ty := 3) rfl ?_); refine ko_get HR rfl (by rfl) (by rfl) (by repeat (first | exact At.head | apply At.tail)) Tryz.underlying3 rfl (by simp only [List.getElem?_toArray, List.getElem?_cons_succ, List.getElem?_cons_zero]; rfl) ?_; (try simp only [Act.put, lsA, lsZ, lsS, Nat.reduceAdd]))
    | ((with_reducible refine kg_dst (N := 15) rfl ?_); refine ko_row rfl (by rfl) (fun W K hK => by go_simp; exact hK.out) ?_; intro x15; (try simp only [Act.put, lsA, lsZ, lsS, Nat.reduceAdd]))
    | ((with_reducible refine kg_dst (N := 20) rfl ?_); refine ko_row rfl (by rfl) (fun W K hK => by go_simp; exact hK.out) ?_; intro x20; (try simp only [Act.put, lsA, lsZ, lsS, Nat.reduceAdd]))
    | (refine ko_pure rfl (by rfl) (fun W K hK => by go_simp; exact hK.out) ?_; (try simp only [Act.put, lsA, lsZ, lsS, Nat.reduceAdd]))
    | (refine ko_off (by rfl) ?_; (try simp only [Act.put, lsA, lsZ, lsS, Nat.reduceAdd])))
  refine ko_end ?_
  intro w1 H1
  clear HR H
  have H := H1
  clear H1
  (try simp only [List.map_cons, List.map_nil, cv, List.cons_append, List.nil_append] at H)
  go_wp2
  go_ret
  exact ⟨rfl, H.below⟩
set_option maxHeartbeats 4000000 in
set_option maxRecDepth 100000 in
theorem Far_calls (p : Par) (held : Int) (w : World) : Calls Tryz.prog 65 #[.agg #[.int .i64 p.N, .int .i64 p.F, .int .i64 p.D, .int .i64 p.Be, .int .i64 p.Rho, .int .i64 p.De, .int .i64 p.Ji, .int .i64 p.Eps, .int .i64 p.Mu, .int .i64 p.Ho, .int .i64 p.Pu, .int .i64 p.Se], .int .i64 held] w fun e w' => e = .returned (.int .i64 (farP p held)) ∧ Below w.heap.size w w' := by
  have H := Fr.start0 (M := fun _ => False) (A := fun _ => False) (w := w) (p := fun _ => True) (fun _ h => h.elim) (fun _ _ => trivial)
  go_enter Tryz.func65, Tryz.ntmps65
  go_wp2_with (first
    | ((with_reducible refine gate_dst (N := 2) rfl ?_); refine fr_box H rfl rfl rfl ?_; intro g2 w2 H1; replace H := H1; clear H1)
    | fail)
  refine ko_region0 H (by kernel_rfl) (by as_aux_lemma => kernel_rfl) (fun HR => ?_)
  repeat (first
    | ((with_reducible refine kg_call (f := 92) rfl ?_); refine ko_call 92 _ rfl (by rfl) Tryz.func92 (by kernel_rfl) rfl (by kernel_rfl) (by simp only [List.map_toArray, List.map_cons, List.map_nil]; rfl) (fun W hC hd => ret_below (Mul_calls _ _ _)) ?_; (try simp only [Act.put, lsA, lsZ, lsS, Nat.reduceAdd]))
    | ((with_reducible refine kg_call (f := 93) rfl ?_); refine ko_call 93 _ rfl (by rfl) Tryz.func93 (by kernel_rfl) rfl (by kernel_rfl) (by simp only [List.map_toArray, List.map_cons, List.map_nil]; rfl) (fun W hC hd => Width_calls p _ _ _) ?_; (try simp only [Act.put, lsA, lsZ, lsS, Nat.reduceAdd]))
    | ((with_reducible refine kg_call (f := 94) rfl ?_); refine ko_call 94 _ rfl (by rfl) Tryz.func94 (by kernel_rfl) rfl (by kernel_rfl) (by simp only [List.map_toArray, List.map_cons, List.map_nil]; rfl) (fun W hC hd => Max2 (by first | exact depH.hd hd (by kernel_rfl) | exact depH.hd (depH.tl hd) (by kernel_rfl))) ?_; (try simp only [Act.put, lsA, lsZ, lsS, Nat.reduceAdd]))
    | ((with_reducible refine kg_load (ty := 23) rfl ?_); refine ko_sub HR (n := 12) rfl (by rfl) (by rfl) (by repeat (first | exact At.head | apply At.tail)) Tryz.underlying23 rfl (by kernel_rfl) (by simp only [List.toList_toArray, List.drop_succ_cons, List.drop_zero, List.take_succ_cons, List.take_zero]; rfl) (by rfl) ?_; (try simp only [Act.put, lsA, lsZ, lsS, Nat.reduceAdd]))
    | ((with_reducible refine kg_load (ty := 3) rfl ?_); refine ko_get HR rfl (by rfl) (by rfl) (by repeat (first | exact At.head | apply At.tail)) Tryz.underlying3 rfl (by simp only [List.getElem?_toArray, List.getElem?_cons_succ, List.getElem?_cons_zero]; rfl) ?_; (try simp only [Act.put, lsA, lsZ, lsS, Nat.reduceAdd]))
    | ((with_reducible refine kg_dst (N := 9) rfl ?_); refine ko_row rfl (by rfl) (fun W K hK => by go_simp; exact hK.out) ?_; intro x9; (try simp only [Act.put, lsA, lsZ, lsS, Nat.reduceAdd]))
    | (refine ko_pure rfl (by rfl) (fun W K hK => by go_simp; exact hK.out) ?_; (try simp only [Act.put, lsA, lsZ, lsS, Nat.reduceAdd]))
    | (refine ko_off (by rfl) ?_; (try simp only [Act.put, lsA, lsZ, lsS, Nat.reduceAdd])))
  refine ko_end ?_
  intro w1 H1
  clear HR H
  have H := H1
  clear H1
  (try simp only [List.map_cons, List.map_nil, cv, List.cons_append, List.nil_append] at H)
  go_wp2
  go_ret
  exact ⟨rfl, H.below⟩
end Go.Proofs.YtbmfgcekglgliaaGreat.G

namespace Go.Proofs.YtbmfgcekglgliaaGreat.G
open Go.RowKit Go.Proofs.YtbmfgcekglgliaaGreatW.PrintWords Go.Proofs.YtbmfgcekglgliaaGreatW.PrintLast Go.Proofs.YtbmfgcekglgliaaGreatW.PrintMore Go.Proofs.YtbmfgcekglgliaaGreatPl Go.Proofs.YtbmfgcekglgliaaGreatEm Go.Proofs.YtbmfgcekglgliaaGreatKr
set_option linter.unusedVariables false
set_option linter.unusedSimpArgs false
set_option maxHeartbeats 1000000 in
theorem SpanOf_calls (a b : Int) (w : World) : Calls Tryz.prog 47 #[.int .i64 a, .int .i64 b] w fun e w' => e = .returned (.agg #[.int .i64 (clip a), .int .i64 (clip b)]) ∧ Below w.heap.size w w' := by
  have H := Fr.start0 (M := fun _ => False) (A := fun _ => False) (w := w) (p := fun _ => True) (fun _ h => h.elim) (fun _ _ => trivial)
  go_enter Tryz.func47, Tryz.ntmps47
  go_wp2_with (first
    | ((with_reducible refine gate_dst (N := 4) rfl ?_); refine fr_new H (N := 4) rfl rfl (cs := #[.int .i64 0, .int .i64 0]) (t := 25) ?hr ?_; (case hr => first | (go_simp; done) | (go_simp; rfl)); intro g4 w4 H1; replace H := H1; clear H1)
    | ((with_reducible refine gate_store (t := 25) (p := 4) rfl ?_); refine fr_put H rfl rfl rfl rfl rfl (by repeat (first | exact At.head | apply At.tail)) (by rfl) (by kernel_rfl) (by simp [Value.oneCell']) ?_; intro w4_ H1; replace H := H1; clear H1)
    | (go_at_call 50; (with_reducible refine (Clip_calls _ _).mono ?_); rintro e w' ⟨rfl, rfl⟩)
    | fail)
  refine bodyPost_ret (results_c rfl _ _ g4 25 _ (0, 0) _ rfl (H.of (by repeat (first | exact At.head | apply At.tail))) Tryz.underlying25 rfl (by kernel_rfl)) rfl ?_
  exact ⟨rfl, H.below⟩
set_option maxHeartbeats 1000000 in
theorem Empty_calls (a b : Int) (w : World) : Calls Tryz.prog 48 #[.agg #[.int .i64 a, .int .i64 b]] w fun e w' => e = .returned (.bool (decide (b < a))) ∧ Below w.heap.size w w' := by
  have H := Fr.start0 (M := fun _ => False) (A := fun _ => False) (w := w) (p := fun _ => True) (fun _ h => h.elim) (fun _ _ => trivial)
  go_enter Tryz.func48, Tryz.ntmps48
  go_wp2_with (first
    | ((with_reducible refine gate_dst (N := 1) rfl ?_); refine fr_box H rfl rfl rfl ?_; intro g1 w1 H1; replace H := H1; clear H1)
    | ((with_reducible refine gate_dst (N := 4) rfl ?_); refine fr_get H rfl rfl rfl (by repeat (first | exact At.head | apply At.tail)) Tryz.underlying3 rfl (by simp only [List.getElem?_toArray, List.getElem?_cons_succ, List.getElem?_cons_zero]; rfl) ?_)
    | ((with_reducible refine gate_dst (N := 6) rfl ?_); refine fr_get H rfl rfl rfl (by repeat (first | exact At.head | apply At.tail)) Tryz.underlying3 rfl (by simp only [List.getElem?_toArray, List.getElem?_cons_succ, List.getElem?_cons_zero]; rfl) ?_)
    | fail)
  go_ret
  exact ⟨rfl, H.below⟩
theorem All_calls (w : World) : Calls Tryz.prog 49 #[] w fun e w' => e = .returned (.agg #[.int .i64 (-2305843009213693952), .int .i64 2305843009213693952]) ∧ Below w.heap.size w w' := by
  have H := Fr.start0 (M := fun _ => False) (A := fun _ => False) (w := w) (p := fun _ => True) (fun _ h => h.elim) (fun _ _ => trivial)
  go_enter Tryz.func49, Tryz.ntmps49
  go_wp2_with (first
    | ((with_reducible refine gate_dst (N := 0) rfl ?_); refine fr_new H (N := 0) rfl rfl (cs := #[.int .i64 0, .int .i64 0]) (t := 25) ?hr ?_; (case hr => first | (go_simp; done) | (go_simp; rfl)); intro g0 w0 H1; replace H := H1; clear H1)
    | ((with_reducible refine gate_store (t := 25) (p := 0) rfl ?_); refine fr_put H rfl rfl rfl rfl rfl (by repeat (first | exact At.head | apply At.tail)) (by rfl) (by kernel_rfl) (by simp [Value.oneCell']) ?_; intro w0_ H1; replace H := H1; clear H1)
    | fail)
  refine bodyPost_ret (results_c rfl _ _ g0 25 _ (0, 0) _ rfl (H.of (by repeat (first | exact At.head | apply At.tail))) Tryz.underlying25 rfl (by kernel_rfl)) rfl ?_
  exact ⟨rfl, H.below⟩
def midP (a b : Int) : Int := (clip a + clip b) / 2
set_option maxHeartbeats 1000000 in
set_option maxRecDepth 100000 in
theorem Mid_calls (a b : Int) (w : World) : Calls Tryz.prog 62 #[.agg #[.int .i64 a, .int .i64 b]] w fun e w' => e = .returned (.int .i64 (midP a b)) ∧ Below w.heap.size w w' := by
  have h1 := (clip_bd a).1
  have h2 := (clip_bd a).2
  have h3 := (clip_bd b).1
  have h4 := (clip_bd b).2
  have HM := Lib.hid (show midP a b = (clip a + clip b) / 2 from rfl)
  have H := Fr.start0 (M := fun _ => False) (A := fun _ => False) (w := w) (p := fun _ => True) (fun _ h => h.elim) (fun _ _ => trivial)
  go_enter Tryz.func62, Tryz.ntmps62
  go_wp2_with (first
    | ((with_reducible refine gate_dst (N := 1) rfl ?_); refine fr_box H rfl rfl rfl ?_; intro g1 w1 H1; replace H := H1; clear H1)
    | fail)
  refine ko_region0 H (by kernel_rfl) (by as_aux_lemma => kernel_rfl) (fun HR => ?_)
  repeat (first
    | ((with_reducible refine kg_call (f := 50) rfl ?_); refine ko_call 50 _ rfl (by rfl) Tryz.func50 (by kernel_rfl) rfl (by kernel_rfl) (by simp only [List.map_toArray, List.map_cons, List.map_nil]; rfl) (fun W hC hd => ret_below (Clip_calls _ _)) ?_; (try simp only [Act.put, lsA, lsZ, lsS, Nat.reduceAdd]))
    | ((with_reducible refine kg_load (ty := 3) rfl ?_); refine ko_get HR rfl (by rfl) (by rfl) (by repeat (first | exact At.head | apply At.tail)) Tryz.underlying3 rfl (by simp only [List.getElem?_toArray, List.getElem?_cons_succ, List.getElem?_cons_zero]; rfl) ?_; (try simp only [Act.put, lsA, lsZ, lsS, Nat.reduceAdd]))
    | (refine ko_pure rfl (by rfl) (fun W K hK => by go_simp; exact hK.out) ?_; (try simp only [Act.put, lsA, lsZ, lsS, Nat.reduceAdd]))
    | (refine ko_off (by rfl) ?_; (try simp only [Act.put, lsA, lsZ, lsS, Nat.reduceAdd])))
  refine ko_end ?_
  intro w1 H1
  clear HR H
  have H := H1
  clear H1
  (try simp only [List.map_cons, List.map_nil, cv, List.cons_append, List.nil_append] at H)
  have e1 : IntKind.i64.wrap (clip a + clip b) = clip a + clip b := by rw [IntKind.wrap_i64]; omega
  go_wp2
  go_ret
  refine ⟨?_, H.below⟩
  rw [HM.out]
  try rfl
end Go.Proofs.YtbmfgcekglgliaaGreat.G

namespace Go.Proofs.YtbmfgcekglgliaaGreat.G
open Go.RowKit Go.Proofs.YtbmfgcekglgliaaGreatW.PrintWords Go.Proofs.YtbmfgcekglgliaaGreatW.PrintLast Go.Proofs.YtbmfgcekglgliaaGreatW.PrintMore Go.Proofs.YtbmfgcekglgliaaGreatPl Go.Proofs.YtbmfgcekglgliaaGreatEm Go.Proofs.YtbmfgcekglgliaaGreatKr
set_option linter.unusedVariables false
set_option linter.unusedSimpArgs false
def rightP (t n : Int) : Bool := decide (-2305843009213693952 ≤ t) && decide (t ≤ 2305843009213693952) && decide (0 ≤ n) && decide (n ≤ 1073741824)
set_option maxHeartbeats 1000000 in
set_option maxRecDepth 100000 in
theorem Right_calls (t n : Int) (w : World) : Calls Tryz.prog 54 #[.agg #[.int .i64 t, .int .i64 n]] w fun e w' => e = .returned (.bool (rightP t n)) ∧ Below w.heap.size w w' := by
  obtain ⟨b1, h1⟩ : ∃ b, decide (-2305843009213693952 ≤ t) = b := ⟨_, rfl⟩
  obtain ⟨b2, h2⟩ : ∃ b, decide (t ≤ 2305843009213693952) = b := ⟨_, rfl⟩
  obtain ⟨b3, h3⟩ : ∃ b, decide (0 ≤ n) = b := ⟨_, rfl⟩
  obtain ⟨b4, h4⟩ : ∃ b, decide (n ≤ 1073741824) = b := ⟨_, rfl⟩
  cases b1 with
  | false =>
    have HR := Lib.hid (show rightP t n = false by unfold rightP; simp only [h1, h2, h3, h4]; rfl)
    have H := Fr.start0 (M := fun _ => False) (A := fun _ => False) (w := w) (p := fun _ => True) (fun _ h => h.elim) (fun _ _ => trivial)
    go_enter Tryz.func54, Tryz.ntmps54
    go_wp2_with (first
      | ((with_reducible refine gate_dst (N := 1) rfl ?_); refine fr_box H rfl rfl rfl ?_; intro g1 w1 H1; replace H := H1; clear H1)
      | ((with_reducible refine gate_dst (N := 4) rfl ?_); refine fr_get H rfl rfl rfl (by repeat (first | exact At.head | apply At.tail)) Tryz.underlying3 rfl (by simp only [List.getElem?_toArray, List.getElem?_cons_succ, List.getElem?_cons_zero]; rfl) ?_)
      | ((with_reducible refine gate_dst (N := 8) rfl ?_); (try (refine gate_guard (by rfl) ?_; dsimp only)); refine fr_get H rfl rfl rfl (by repeat (first | exact At.head | apply At.tail)) Tryz.underlying3 rfl (by simp only [List.getElem?_toArray, List.getElem?_cons_succ, List.getElem?_cons_zero]; rfl) ?_)
      | ((with_reducible refine gate_dst (N := 13) rfl ?_); (try (refine gate_guard (by rfl) ?_; dsimp only)); refine fr_get H rfl rfl rfl (by repeat (first | exact At.head | apply At.tail)) Tryz.underlying3 rfl (by simp only [List.getElem?_toArray, List.getElem?_cons_succ, List.getElem?_cons_zero]; rfl) ?_)
      | ((with_reducible refine gate_dst (N := 18) rfl ?_); (try (refine gate_guard (by rfl) ?_; dsimp only)); refine fr_get H rfl rfl rfl (by repeat (first | exact At.head | apply At.tail)) Tryz.underlying3 rfl (by simp only [List.getElem?_toArray, List.getElem?_cons_succ, List.getElem?_cons_zero]; rfl) ?_)
      | fail)
    go_ret
    exact ⟨(by rw [HR.out]; try rfl), H.below⟩
  | true =>
    cases b2 with
    | false =>
      have HR := Lib.hid (show rightP t n = false by unfold rightP; simp only [h1, h2, h3, h4]; rfl)
      have H := Fr.start0 (M := fun _ => False) (A := fun _ => False) (w := w) (p := fun _ => True) (fun _ h => h.elim) (fun _ _ => trivial)
      go_enter Tryz.func54, Tryz.ntmps54
      go_wp2_with (first
        | ((with_reducible refine gate_dst (N := 1) rfl ?_); refine fr_box H rfl rfl rfl ?_; intro g1 w1 H1; replace H := H1; clear H1)
        | ((with_reducible refine gate_dst (N := 4) rfl ?_); refine fr_get H rfl rfl rfl (by repeat (first | exact At.head | apply At.tail)) Tryz.underlying3 rfl (by simp only [List.getElem?_toArray, List.getElem?_cons_succ, List.getElem?_cons_zero]; rfl) ?_)
        | ((with_reducible refine gate_dst (N := 8) rfl ?_); (try (refine gate_guard (by rfl) ?_; dsimp only)); refine fr_get H rfl rfl rfl (by repeat (first | exact At.head | apply At.tail)) Tryz.underlying3 rfl (by simp only [List.getElem?_toArray, List.getElem?_cons_succ, List.getElem?_cons_zero]; rfl) ?_)
        | ((with_reducible refine gate_dst (N := 13) rfl ?_); (try (refine gate_guard (by rfl) ?_; dsimp only)); refine fr_get H rfl rfl rfl (by repeat (first | exact At.head | apply At.tail)) Tryz.underlying3 rfl (by simp only [List.getElem?_toArray, List.getElem?_cons_succ, List.getElem?_cons_zero]; rfl) ?_)
        | ((with_reducible refine gate_dst (N := 18) rfl ?_); (try (refine gate_guard (by rfl) ?_; dsimp only)); refine fr_get H rfl rfl rfl (by repeat (first | exact At.head | apply At.tail)) Tryz.underlying3 rfl (by simp only [List.getElem?_toArray, List.getElem?_cons_succ, List.getElem?_cons_zero]; rfl) ?_)
        | fail)
      go_ret
      exact ⟨(by rw [HR.out]; try rfl), H.below⟩
    | true =>
      cases b3 with
      | false =>
        have HR := Lib.hid (show rightP t n = false by unfold rightP; simp only [h1, h2, h3, h4]; rfl)
        have H := Fr.start0 (M := fun _ => False) (A := fun _ => False) (w := w) (p := fun _ => True) (fun _ h => h.elim) (fun _ _ => trivial)
        go_enter Tryz.func54, Tryz.ntmps54
        go_wp2_with (first
          | ((with_reducible refine gate_dst (N := 1) rfl ?_); refine fr_box H rfl rfl rfl ?_; intro g1 w1 H1; replace H := H1; clear H1)
          | ((with_reducible refine gate_dst (N := 4) rfl ?_); refine fr_get H rfl rfl rfl (by repeat (first | exact At.head | apply At.tail)) Tryz.underlying3 rfl (by simp only [List.getElem?_toArray, List.getElem?_cons_succ, List.getElem?_cons_zero]; rfl) ?_)
          | ((with_reducible refine gate_dst (N := 8) rfl ?_); (try (refine gate_guard (by rfl) ?_; dsimp only)); refine fr_get H rfl rfl rfl (by repeat (first | exact At.head | apply At.tail)) Tryz.underlying3 rfl (by simp only [List.getElem?_toArray, List.getElem?_cons_succ, List.getElem?_cons_zero]; rfl) ?_)
          | ((with_reducible refine gate_dst (N := 13) rfl ?_); (try (refine gate_guard (by rfl) ?_; dsimp only)); refine fr_get H rfl rfl rfl (by repeat (first | exact At.head | apply At.tail)) Tryz.underlying3 rfl (by simp only [List.getElem?_toArray, List.getElem?_cons_succ, List.getElem?_cons_zero]; rfl) ?_)
          | ((with_reducible refine gate_dst (N := 18) rfl ?_); (try (refine gate_guard (by rfl) ?_; dsimp only)); refine fr_get H rfl rfl rfl (by repeat (first | exact At.head | apply At.tail)) Tryz.underlying3 rfl (by simp only [List.getElem?_toArray, List.getElem?_cons_succ, List.getElem?_cons_zero]; rfl) ?_)
          | fail)
        go_ret
        exact ⟨(by rw [HR.out]; try rfl), H.below⟩
      | true =>
        cases b4 with
        | false =>
          have HR := Lib.hid (show rightP t n = false by unfold rightP; simp only [h1, h2, h3, h4]; rfl)
          have H := Fr.start0 (M := fun _ => False) (A := fun _ => False) (w := w) (p := fun _ => True) (fun _ h => h.elim) (fun _ _ => trivial)
          go_enter Tryz.func54, Tryz.ntmps54
          go_wp2_with (first
            | ((with_reducible refine gate_dst (N := 1) rfl ?_); refine fr_box H rfl rfl rfl ?_; intro g1 w1 H1; replace H := H1; clear H1)
            | ((with_reducible refine gate_dst (N := 4) rfl ?_); refine fr_get H rfl rfl rfl (by repeat (first | exact At.head | apply At.tail)) Tryz.underlying3 rfl (by simp only [List.getElem?_toArray, List.getElem?_cons_succ, List.getElem?_cons_zero]; rfl) ?_)
            | ((with_reducible refine gate_dst (N := 8) rfl ?_); (try (refine gate_guard (by rfl) ?_; dsimp only)); refine fr_get H rfl rfl rfl (by repeat (first | exact At.head | apply At.tail)) Tryz.underlying3 rfl (by simp only [List.getElem?_toArray, List.getElem?_cons_succ, List.getElem?_cons_zero]; rfl) ?_)
            | ((with_reducible refine gate_dst (N := 13) rfl ?_); (try (refine gate_guard (by rfl) ?_; dsimp only)); refine fr_get H rfl rfl rfl (by repeat (first | exact At.head | apply At.tail)) Tryz.underlying3 rfl (by simp only [List.getElem?_toArray, List.getElem?_cons_succ, List.getElem?_cons_zero]; rfl) ?_)
            | ((with_reducible refine gate_dst (N := 18) rfl ?_); (try (refine gate_guard (by rfl) ?_; dsimp only)); refine fr_get H rfl rfl rfl (by repeat (first | exact At.head | apply At.tail)) Tryz.underlying3 rfl (by simp only [List.getElem?_toArray, List.getElem?_cons_succ, List.getElem?_cons_zero]; rfl) ?_)
            | fail)
          go_ret
          exact ⟨(by rw [HR.out]; try rfl), H.below⟩
        | true =>
          have HR := Lib.hid (show rightP t n = true by unfold rightP; simp only [h1, h2, h3, h4]; rfl)
          have H := Fr.start0 (M := fun _ => False) (A := fun _ => False) (w := w) (p := fun _ => True) (fun _ h => h.elim) (fun _ _ => trivial)
          go_enter Tryz.func54, Tryz.ntmps54
          go_wp2_with (first
            | ((with_reducible refine gate_dst (N := 1) rfl ?_); refine fr_box H rfl rfl rfl ?_; intro g1 w1 H1; replace H := H1; clear H1)
            | ((with_reducible refine gate_dst (N := 4) rfl ?_); refine fr_get H rfl rfl rfl (by repeat (first | exact At.head | apply At.tail)) Tryz.underlying3 rfl (by simp only [List.getElem?_toArray, List.getElem?_cons_succ, List.getElem?_cons_zero]; rfl) ?_)
            | ((with_reducible refine gate_dst (N := 8) rfl ?_); (try (refine gate_guard (by rfl) ?_; dsimp only)); refine fr_get H rfl rfl rfl (by repeat (first | exact At.head | apply At.tail)) Tryz.underlying3 rfl (by simp only [List.getElem?_toArray, List.getElem?_cons_succ, List.getElem?_cons_zero]; rfl) ?_)
            | ((with_reducible refine gate_dst (N := 13) rfl ?_); (try (refine gate_guard (by rfl) ?_; dsimp only)); refine fr_get H rfl rfl rfl (by repeat (first | exact At.head | apply At.tail)) Tryz.underlying3 rfl (by simp only [List.getElem?_toArray, List.getElem?_cons_succ, List.getElem?_cons_zero]; rfl) ?_)
            | ((with_reducible refine gate_dst (N := 18) rfl ?_); (try (refine gate_guard (by rfl) ?_; dsimp only)); refine fr_get H rfl rfl rfl (by repeat (first | exact At.head | apply At.tail)) Tryz.underlying3 rfl (by simp only [List.getElem?_toArray, List.getElem?_cons_succ, List.getElem?_cons_zero]; rfl) ?_)
            | fail)
          go_ret
          exact ⟨(by rw [HR.out]; try rfl), H.below⟩
def nextP (t n : Int) : Int × Int := if 1073741824 ≤ n then (sadd [t, 1], 0) else (clip t, (if n < 0 then 0 else n) + 1)
set_option maxHeartbeats 1000000 in
set_option maxRecDepth 100000 in
theorem Next_calls (t n : Int) (w : World) : Calls Tryz.prog 95 #[.agg #[.int .i64 t, .int .i64 n]] w fun e w' => e = .returned (.agg #[.int .i64 (nextP t n).1, .int .i64 (nextP t n).2]) ∧ Below w.heap.size w w' := by
  by_cases h : 1073741824 ≤ n
  · have HN := Lib.hid (show nextP t n = (sadd [t, 1], 0) by unfold nextP; rw [if_pos h])
    have d1 : decide (1073741824 ≤ n) = true := decide_eq_true h
    clear h
    have H := Fr.start0 (M := fun _ => False) (A := fun _ => False) (w := w) (p := fun _ => True) (fun _ h => h.elim) (fun _ _ => trivial)
    go_enter Tryz.func95, Tryz.ntmps95
    go_wp2_with (first
      | ((with_reducible refine gate_dst (N := 1) rfl ?_); refine fr_box H rfl rfl rfl ?_; intro g1 w1 H1; replace H := H1; clear H1)
      | ((with_reducible refine gate_dst (N := 2) rfl ?_); refine fr_new H (N := 2) rfl rfl (cs := #[.int .i64 0, .int .i64 0]) (t := 28) ?hr ?_; (case hr => first | (go_simp; done) | (go_simp; rfl)); intro g2 w2 H1; replace H := H1; clear H1)
      | ((with_reducible refine gate_dst (N := 4) rfl ?_); refine fr_get H rfl rfl rfl (by repeat (first | exact At.head | apply At.tail)) Tryz.underlying3 rfl (by simp only [List.getElem?_toArray, List.getElem?_cons_succ, List.getElem?_cons_zero]; rfl) ?_)
      | ((with_reducible refine gate_dst (N := 7) rfl ?_); refine fr_get H rfl rfl rfl (by repeat (first | exact At.head | apply At.tail)) Tryz.underlying3 rfl (by simp only [List.getElem?_toArray, List.getElem?_cons_succ, List.getElem?_cons_zero]; rfl) ?_)
      | ((with_reducible refine gate_dst (N := 8) rfl ?_); refine fr_rowv H (N := 8) rfl rfl (fun K hK => by go_simp; exact hK.out) ?_; intro x8 w8 H1; replace H := H1; clear H1)
      | ((with_reducible refine gate_store (t := 28) (p := 2) rfl ?_); refine fr_put H rfl rfl rfl rfl rfl (by repeat (first | exact At.head | apply At.tail)) (by rfl) (by kernel_rfl) (by simp [Value.oneCell']) ?_; intro w2_ H1; replace H := H1; clear H1)
      | (go_at_call 52; (with_reducible refine (Add2 (H.of At.head)).mono ?_); rintro e w' ⟨rfl, hb⟩; have H1 := H.call hb; clear hb; replace H := H1; clear H1)
      | fail)
    refine bodyPost_ret (results_c rfl _ _ g2 28 _ (0, 0) _ rfl (H.of (by repeat (first | exact At.head | apply At.tail))) Tryz.underlying28 rfl (by kernel_rfl)) rfl ?_
    exact ⟨(by rw [HN.out]; try rfl), H.below⟩
  · have HN := Lib.hid (show nextP t n = (clip t, (if n < 0 then 0 else n) + 1) by unfold nextP; rw [if_neg h])
    have d1 : decide (1073741824 ≤ n) = false := decide_eq_false h
    obtain ⟨m, hm⟩ : ∃ m, (if n < 0 then 0 else n) = m := ⟨_, rfl⟩
    have e1 : IntKind.i64.wrap (m + 1) = m + 1 := by rw [IntKind.wrap_i64, ← hm]; split <;> omega
    rw [hm] at HN
    clear h
    have H := Fr.start0 (M := fun _ => False) (A := fun _ => False) (w := w) (p := fun _ => True) (fun _ h => h.elim) (fun _ _ => trivial)
    go_enter Tryz.func95, Tryz.ntmps95
    go_wp2_with (first
      | ((with_reducible refine gate_dst (N := 1) rfl ?_); refine fr_box H rfl rfl rfl ?_; intro g1 w1 H1; replace H := H1; clear H1)
      | ((with_reducible refine gate_dst (N := 2) rfl ?_); refine fr_new H (N := 2) rfl rfl (cs := #[.int .i64 0, .int .i64 0]) (t := 28) ?hr ?_; (case hr => first | (go_simp; done) | (go_simp; rfl)); intro g2 w2 H1; replace H := H1; clear H1)
      | ((with_reducible refine gate_dst (N := 4) rfl ?_); refine fr_get H rfl rfl rfl (by repeat (first | exact At.head | apply At.tail)) Tryz.underlying3 rfl (by simp only [List.getElem?_toArray, List.getElem?_cons_succ, List.getElem?_cons_zero]; rfl) ?_)
      | ((with_reducible refine gate_dst (N := 7) rfl ?_); refine fr_get H rfl rfl rfl (by repeat (first | exact At.head | apply At.tail)) Tryz.underlying3 rfl (by simp only [List.getElem?_toArray, List.getElem?_cons_succ, List.getElem?_cons_zero]; rfl) ?_)
      | ((with_reducible refine gate_dst (N := 8) rfl ?_); refine fr_rowv H (N := 8) rfl rfl (fun K hK => by go_simp; exact hK.out) ?_; intro x8 w8 H1; replace H := H1; clear H1)
      | ((with_reducible refine gate_store (t := 28) (p := 2) rfl ?_); refine fr_put H rfl rfl rfl rfl rfl (by repeat (first | exact At.head | apply At.tail)) (by rfl) (by kernel_rfl) (by simp [Value.oneCell']) ?_; intro w2_ H1; replace H := H1; clear H1)
      | fail)
    refine ko_region1 H (by simp only [List.length_cons, List.length_nil, Nat.reduceAdd]; rfl) (g := g2) (by repeat (first | exact Take.head | apply Take.tail)) (by kernel_rfl) (by as_aux_lemma => kernel_rfl) (fun HR => ?_)
    repeat (first
      | ((with_reducible refine kg_call (f := 50) rfl ?_); refine ko_call 50 _ rfl (by rfl) Tryz.func50 (by kernel_rfl) rfl (by kernel_rfl) (by simp only [List.map_toArray, List.map_cons, List.map_nil]; rfl) (fun W hC hd => ret_below (Clip_calls _ _)) ?_; (try simp only [Act.put, lsA, lsZ, lsS, Nat.reduceAdd]))
      | ((with_reducible refine kg_load (ty := 3) rfl ?_); refine ko_get HR rfl (by rfl) (by rfl) (by repeat (first | exact At.head | apply At.tail)) Tryz.underlying3 rfl (by simp only [List.getElem?_toArray, List.getElem?_cons_succ, List.getElem?_cons_zero]; rfl) ?_; (try simp only [Act.put, lsA, lsZ, lsS, Nat.reduceAdd]))
      | ((with_reducible refine kg_store (ty := 28) rfl ?_); refine ko_put (u := .agg (List.toArray _)) rfl rfl (by rfl) (by rfl) (by rfl) (by repeat (first | exact VarAt.head | apply VarAt.tail)) (by kernel_rfl) (Nat.le_of_ble_eq_true rfl) (by simp only [Value.cells, List.take_succ_cons, List.take_zero, List.drop_succ_cons, List.drop_zero, List.cons_append, List.nil_append, List.length_cons, List.length_nil, Nat.reduceAdd, List.append_nil, List.drop_nil, List.take_nil]; rfl) (by repeat (first | exact VarAt.head | apply VarAt.tail)) (by simp [apartR, Value.cells]) (by kernel_rfl) (by simp [Value.cells, Value.oneCell']) ?_; (try simp only [Value.cells, List.length_cons, List.length_nil, Nat.reduceAdd]))
      | (refine ko_pure rfl (by rfl) (fun W K hK => by go_simp; exact hK.out) ?_; (try simp only [Act.put, lsA, lsZ, lsS, Nat.reduceAdd]))
      | (refine ko_off (by rfl) ?_; (try simp only [Act.put, lsA, lsZ, lsS, Nat.reduceAdd])))
    refine ko_end ?_
    intro w1 H1
    clear HR H
    have H := H1
    clear H1
    (try simp only [List.map_cons, List.map_nil, cv, List.cons_append, List.nil_append] at H)
    go_wp2
    refine bodyPost_ret (results_c rfl _ _ g2 28 _ (0, 0) _ rfl (H.of (by repeat (first | exact At.head | apply At.tail))) Tryz.underlying28 rfl (by kernel_rfl)) rfl ?_
    exact ⟨(by rw [HN.out]; try rfl), H.below⟩
def tickP (t n now : Int) : Int × Int := if t < clip now then (clip now, 0) else nextP t n
set_option maxHeartbeats 1000000 in
set_option maxRecDepth 100000 in
theorem Tick_calls (t n now : Int) (w : World) : Calls Tryz.prog 69 #[.agg #[.int .i64 t, .int .i64 n], .int .i64 now] w fun e w' => e = .returned (.agg #[.int .i64 (tickP t n now).1, .int .i64 (tickP t n now).2]) ∧ Below w.heap.size w w' := by
  by_cases h : t < clip now
  · have HN := Lib.hid (show tickP t n now = (clip now, 0) by unfold tickP; rw [if_pos h])
    have d1 : decide (t < clip now) = true := decide_eq_true h
    clear h
    have H := Fr.start0 (M := fun _ => False) (A := fun _ => False) (w := w) (p := fun _ => True) (fun _ h => h.elim) (fun _ _ => trivial)
    go_enter Tryz.func69, Tryz.ntmps69
    go_wp2_with (first
      | ((with_reducible refine gate_dst (N := 2) rfl ?_); refine fr_box H rfl rfl rfl ?_; intro g2 w2 H1; replace H := H1; clear H1)
      | ((with_reducible refine gate_dst (N := 4) rfl ?_); refine fr_new H (N := 4) rfl rfl (cs := #[.int .i64 0, .int .i64 0]) (t := 104) ?hr ?_; (case hr => first | (go_simp; done) | (go_simp; rfl)); intro g4 w4 H1; replace H := H1; clear H1)
      | ((with_reducible refine gate_dst (N := 11) rfl ?_); refine fr_get H rfl rfl rfl (by repeat (first | exact At.head | apply At.tail)) Tryz.underlying3 rfl (by simp only [List.getElem?_toArray, List.getElem?_cons_succ, List.getElem?_cons_zero]; rfl) ?_)
      | ((with_reducible refine gate_store (t := 104) (p := 4) rfl ?_); refine fr_put H rfl rfl rfl rfl rfl (by repeat (first | exact At.head | apply At.tail)) (by rfl) (by kernel_rfl) (by simp [Value.oneCell']) ?_; intro w4_ H1; replace H := H1; clear H1)
      | ((with_reducible refine gate_dst (N := 17) rfl ?_); refine fr_sub H (n := 2) rfl rfl rfl (by repeat (first | exact At.head | apply At.tail)) Tryz.underlying28 rfl (by kernel_rfl) (by simp only [List.toList_toArray, List.drop_succ_cons, List.drop_zero, List.take_succ_cons, List.take_zero]; rfl) (by rfl) ?_)
      | (go_at_call 50; (with_reducible refine (Clip_calls _ _).mono ?_); rintro e w' ⟨rfl, rfl⟩)
      | fail)
    refine bodyPost_ret (results_c rfl _ _ g4 104 _ (0, 0) _ rfl (H.of (by repeat (first | exact At.head | apply At.tail))) Tryz.underlying104 rfl (by kernel_rfl)) rfl ?_
    exact ⟨(by rw [HN.out]; try rfl), H.below⟩
  · have HN := Lib.hid (show tickP t n now = nextP t n by unfold tickP; rw [if_neg h])
    have d1 : decide (t < clip now) = false := decide_eq_false h
    clear h
    have H := Fr.start0 (M := fun _ => False) (A := fun _ => False) (w := w) (p := fun _ => True) (fun _ h => h.elim) (fun _ _ => trivial)
    go_enter Tryz.func69, Tryz.ntmps69
    go_wp2_with (first
      | ((with_reducible refine gate_dst (N := 2) rfl ?_); refine fr_box H rfl rfl rfl ?_; intro g2 w2 H1; replace H := H1; clear H1)
      | ((with_reducible refine gate_dst (N := 4) rfl ?_); refine fr_new H (N := 4) rfl rfl (cs := #[.int .i64 0, .int .i64 0]) (t := 104) ?hr ?_; (case hr => first | (go_simp; done) | (go_simp; rfl)); intro g4 w4 H1; replace H := H1; clear H1)
      | ((with_reducible refine gate_dst (N := 11) rfl ?_); refine fr_get H rfl rfl rfl (by repeat (first | exact At.head | apply At.tail)) Tryz.underlying3 rfl (by simp only [List.getElem?_toArray, List.getElem?_cons_succ, List.getElem?_cons_zero]; rfl) ?_)
      | ((with_reducible refine gate_store (t := 104) (p := 4) rfl ?_); refine fr_put H rfl rfl rfl rfl rfl (by repeat (first | exact At.head | apply At.tail)) (by rfl) (by kernel_rfl) (by simp [Value.oneCell']) ?_; intro w4_ H1; replace H := H1; clear H1)
      | ((with_reducible refine gate_dst (N := 17) rfl ?_); refine fr_sub H (n := 2) rfl rfl rfl (by repeat (first | exact At.head | apply At.tail)) Tryz.underlying28 rfl (by kernel_rfl) (by simp only [List.toList_toArray, List.drop_succ_cons, List.drop_zero, List.take_succ_cons, List.take_zero]; rfl) (by rfl) ?_)
      | (go_at_call 50; (with_reducible refine (Clip_calls _ _).mono ?_); rintro e w' ⟨rfl, rfl⟩)
      | (go_at_call 95; (with_reducible refine (Next_calls _ _ _).mono ?_); rintro e w' ⟨rfl, hb⟩; have H1 := H.call hb; clear hb; replace H := H1; clear H1)
      | fail)
    refine bodyPost_ret (results_c rfl _ _ g4 104 _ (0, 0) _ rfl (H.of (by repeat (first | exact At.head | apply At.tail))) Tryz.underlying104 rfl (by kernel_rfl)) rfl ?_
    exact ⟨(by rw [HN.out]; try rfl), H.below⟩
def mendP (t n now most : Int) : Int × Int × Bool := if (rightP t n && decide (t ≤ most)) = true then (t, n, false) else (clip now, 0, true)
set_option maxHeartbeats 1000000 in
set_option maxRecDepth 100000 in
theorem Mend_calls (t n now most : Int) (w : World) : Calls Tryz.prog 67 #[.agg #[.int .i64 t, .int .i64 n], .int .i64 now, .int .i64 most] w fun e w' => e = .returned (.tuple #[.agg #[.int .i64 (mendP t n now most).1, .int .i64 (mendP t n now most).2.1], .bool (mendP t n now most).2.2]) ∧ Below w.heap.size w w' := by
  obtain ⟨b, hb⟩ : ∃ b, rightP t n = b := ⟨_, rfl⟩
  obtain ⟨c, hc⟩ : ∃ c, decide (t ≤ most) = c := ⟨_, rfl⟩
  have HN := Lib.hid (show mendP t n now most = if (b && c) = true then (t, n, false) else (clip now, 0, true) by unfold mendP; rw [hb, hc])
  cases b with
  | false =>
    have H := Fr.start0 (M := fun _ => False) (A := fun _ => False) (w := w) (p := fun _ => True) (fun _ h => h.elim) (fun _ _ => trivial)
    go_enter Tryz.func67, Tryz.ntmps67
    go_wp2_with (first
      | ((with_reducible refine gate_dst (N := 3) rfl ?_); refine fr_box H rfl rfl rfl ?_; intro g3 w3 H1; replace H := H1; clear H1)
      | ((with_reducible refine gate_dst (N := 6) rfl ?_); refine fr_new H (N := 6) rfl rfl (cs := #[.int .i64 0, .int .i64 0]) (t := 104) ?hr ?_; (case hr => first | (go_simp; done) | (go_simp; rfl)); intro g6 w6 H1; replace H := H1; clear H1)
      | ((with_reducible refine gate_dst (N := 9) rfl ?_); refine fr_sub H (n := 2) rfl rfl rfl (by repeat (first | exact At.head | apply At.tail)) Tryz.underlying28 rfl (by kernel_rfl) (by simp only [List.toList_toArray, List.drop_succ_cons, List.drop_zero, List.take_succ_cons, List.take_zero]; rfl) (by rfl) ?_)
      | ((with_reducible refine gate_dst (N := 14) rfl ?_); (try (refine gate_guard (by rfl) ?_; dsimp only)); refine fr_get H rfl rfl rfl (by repeat (first | exact At.head | apply At.tail)) Tryz.underlying3 rfl (by simp only [List.getElem?_toArray, List.getElem?_cons_succ, List.getElem?_cons_zero]; rfl) ?_)
      | ((with_reducible refine gate_dst (N := 18) rfl ?_); refine fr_sub H (n := 2) rfl rfl rfl (by repeat (first | exact At.head | apply At.tail)) Tryz.underlying104 rfl (by kernel_rfl) (by simp only [List.toList_toArray, List.drop_succ_cons, List.drop_zero, List.take_succ_cons, List.take_zero]; rfl) (by rfl) ?_)
      | ((with_reducible refine gate_store (t := 104) (p := 6) rfl ?_); refine fr_put H rfl rfl rfl rfl rfl (by repeat (first | exact At.head | apply At.tail)) (by rfl) (by kernel_rfl) (by simp [Value.oneCell']) ?_; intro w6_ H1; replace H := H1; clear H1)
      | (go_at_call 50; (with_reducible refine (Clip_calls _ _).mono ?_); rintro e w' ⟨rfl, rfl⟩)
      | (go_at_call 54; (with_reducible refine (Right_calls _ _ _).mono ?_); rintro e w' ⟨rfl, hb⟩; have H1 := H.call hb; clear hb; replace H := H1; clear H1)
      | fail)
    refine bodyPost_ret (results_ct rfl _ _ g6 104 _ (0, 0) _ rfl (H.of (by repeat (first | exact At.head | apply At.tail))) Tryz.underlying104 rfl (by kernel_rfl)) rfl ?_
    exact ⟨(by rw [HN.out]; try rfl), H.below⟩
  | true =>
    cases c with
    | false =>
      have H := Fr.start0 (M := fun _ => False) (A := fun _ => False) (w := w) (p := fun _ => True) (fun _ h => h.elim) (fun _ _ => trivial)
      go_enter Tryz.func67, Tryz.ntmps67
      go_wp2_with (first
        | ((with_reducible refine gate_dst (N := 3) rfl ?_); refine fr_box H rfl rfl rfl ?_; intro g3 w3 H1; replace H := H1; clear H1)
        | ((with_reducible refine gate_dst (N := 6) rfl ?_); refine fr_new H (N := 6) rfl rfl (cs := #[.int .i64 0, .int .i64 0]) (t := 104) ?hr ?_; (case hr => first | (go_simp; done) | (go_simp; rfl)); intro g6 w6 H1; replace H := H1; clear H1)
        | ((with_reducible refine gate_dst (N := 9) rfl ?_); refine fr_sub H (n := 2) rfl rfl rfl (by repeat (first | exact At.head | apply At.tail)) Tryz.underlying28 rfl (by kernel_rfl) (by simp only [List.toList_toArray, List.drop_succ_cons, List.drop_zero, List.take_succ_cons, List.take_zero]; rfl) (by rfl) ?_)
        | ((with_reducible refine gate_dst (N := 14) rfl ?_); (try (refine gate_guard (by rfl) ?_; dsimp only)); refine fr_get H rfl rfl rfl (by repeat (first | exact At.head | apply At.tail)) Tryz.underlying3 rfl (by simp only [List.getElem?_toArray, List.getElem?_cons_succ, List.getElem?_cons_zero]; rfl) ?_)
        | ((with_reducible refine gate_dst (N := 18) rfl ?_); refine fr_sub H (n := 2) rfl rfl rfl (by repeat (first | exact At.head | apply At.tail)) Tryz.underlying104 rfl (by kernel_rfl) (by simp only [List.toList_toArray, List.drop_succ_cons, List.drop_zero, List.take_succ_cons, List.take_zero]; rfl) (by rfl) ?_)
        | ((with_reducible refine gate_store (t := 104) (p := 6) rfl ?_); refine fr_put H rfl rfl rfl rfl rfl (by repeat (first | exact At.head | apply At.tail)) (by rfl) (by kernel_rfl) (by simp [Value.oneCell']) ?_; intro w6_ H1; replace H := H1; clear H1)
        | (go_at_call 50; (with_reducible refine (Clip_calls _ _).mono ?_); rintro e w' ⟨rfl, rfl⟩)
        | (go_at_call 54; (with_reducible refine (Right_calls _ _ _).mono ?_); rintro e w' ⟨rfl, hb⟩; have H1 := H.call hb; clear hb; replace H := H1; clear H1)
        | fail)
      refine bodyPost_ret (results_ct rfl _ _ g6 104 _ (0, 0) _ rfl (H.of (by repeat (first | exact At.head | apply At.tail))) Tryz.underlying104 rfl (by kernel_rfl)) rfl ?_
      exact ⟨(by rw [HN.out]; try rfl), H.below⟩
    | true =>
      have H := Fr.start0 (M := fun _ => False) (A := fun _ => False) (w := w) (p := fun _ => True) (fun _ h => h.elim) (fun _ _ => trivial)
      go_enter Tryz.func67, Tryz.ntmps67
      go_wp2_with (first
        | ((with_reducible refine gate_dst (N := 3) rfl ?_); refine fr_box H rfl rfl rfl ?_; intro g3 w3 H1; replace H := H1; clear H1)
        | ((with_reducible refine gate_dst (N := 6) rfl ?_); refine fr_new H (N := 6) rfl rfl (cs := #[.int .i64 0, .int .i64 0]) (t := 104) ?hr ?_; (case hr => first | (go_simp; done) | (go_simp; rfl)); intro g6 w6 H1; replace H := H1; clear H1)
        | ((with_reducible refine gate_dst (N := 9) rfl ?_); refine fr_sub H (n := 2) rfl rfl rfl (by repeat (first | exact At.head | apply At.tail)) Tryz.underlying28 rfl (by kernel_rfl) (by simp only [List.toList_toArray, List.drop_succ_cons, List.drop_zero, List.take_succ_cons, List.take_zero]; rfl) (by rfl) ?_)
        | ((with_reducible refine gate_dst (N := 14) rfl ?_); (try (refine gate_guard (by rfl) ?_; dsimp only)); refine fr_get H rfl rfl rfl (by repeat (first | exact At.head | apply At.tail)) Tryz.underlying3 rfl (by simp only [List.getElem?_toArray, List.getElem?_cons_succ, List.getElem?_cons_zero]; rfl) ?_)
        | ((with_reducible refine gate_dst (N := 18) rfl ?_); refine fr_sub H (n := 2) rfl rfl rfl (by repeat (first | exact At.head | apply At.tail)) Tryz.underlying104 rfl (by kernel_rfl) (by simp only [List.toList_toArray, List.drop_succ_cons, List.drop_zero, List.take_succ_cons, List.take_zero]; rfl) (by rfl) ?_)
        | ((with_reducible refine gate_store (t := 104) (p := 6) rfl ?_); refine fr_put H rfl rfl rfl rfl rfl (by repeat (first | exact At.head | apply At.tail)) (by rfl) (by kernel_rfl) (by simp [Value.oneCell']) ?_; intro w6_ H1; replace H := H1; clear H1)
        | (go_at_call 50; (with_reducible refine (Clip_calls _ _).mono ?_); rintro e w' ⟨rfl, rfl⟩)
        | (go_at_call 54; (with_reducible refine (Right_calls _ _ _).mono ?_); rintro e w' ⟨rfl, hb⟩; have H1 := H.call hb; clear hb; replace H := H1; clear H1)
        | fail)
      refine bodyPost_ret (results_ct rfl _ _ g6 104 _ (0, 0) _ rfl (H.of (by repeat (first | exact At.head | apply At.tail))) Tryz.underlying104 rfl (by kernel_rfl)) rfl ?_
      exact ⟨(by rw [HN.out]; try rfl), H.below⟩
def slewP (p : Par) (t : Int) (set : Bool) (ticks z : Int) (jump : Bool) : Int := if (jump || !set) = true then clip z else sadd [sadd [t, ticks], bound (ssub z (sadd [t, ticks])) (sneg p.Mu) p.Mu]
set_option maxHeartbeats 4000000 in
set_option maxRecDepth 100000 in
theorem Slew_calls (p : Par) (t : Int) (set : Bool) (ticks z : Int) (jump : Bool) (w : World) : Calls Tryz.prog 66 #[.agg #[.int .i64 t, .bool set], .agg #[.int .i64 p.N, .int .i64 p.F, .int .i64 p.D, .int .i64 p.Be, .int .i64 p.Rho, .int .i64 p.De, .int .i64 p.Ji, .int .i64 p.Eps, .int .i64 p.Mu, .int .i64 p.Ho, .int .i64 p.Pu, .int .i64 p.Se], .int .i64 ticks, .int .i64 z, .bool jump] w fun e w' => e = .returned (.agg #[.int .i64 (slewP p t set ticks z jump), .bool true]) ∧ Below w.heap.size w w' := by
  obtain ⟨b, hb⟩ : ∃ b, (jump || !set) = b := ⟨_, rfl⟩
  cases b with
  | true =>
    have HN := Lib.hid (show slewP p t set ticks z jump = clip z by unfold slewP; rw [if_pos hb])
    cases jump with
    | true =>
      clear hb
      have H := Fr.start0 (M := fun _ => False) (A := fun _ => False) (w := w) (p := fun _ => True) (fun _ h => h.elim) (fun _ _ => trivial)
      go_enter Tryz.func66, Tryz.ntmps66
      go_wp2_with (first
        | ((with_reducible refine gate_dst (N := 5) rfl ?_); refine fr_box H rfl rfl rfl ?_; intro g5 w5 H1; replace H := H1; clear H1)
        | ((with_reducible refine gate_dst (N := 6) rfl ?_); refine fr_box H rfl rfl rfl ?_; intro g6 w6 H1; replace H := H1; clear H1)
        | ((with_reducible refine gate_dst (N := 10) rfl ?_); refine fr_new H (N := 10) rfl rfl (cs := #[.int .i64 0, .bool false]) (t := 101) ?hr ?_; (case hr => first | (go_simp; done) | (go_simp; rfl)); intro g10 w10 H1; replace H := H1; clear H1)
        | ((with_reducible refine gate_dst (N := 16) rfl ?_); (try (refine gate_guard (by rfl) ?_; dsimp only)); refine fr_get H rfl rfl rfl (by repeat (first | exact At.head | apply At.tail)) Tryz.underlying4 rfl (by simp only [List.getElem?_toArray, List.getElem?_cons_succ, List.getElem?_cons_zero]; rfl) ?_)
        | ((with_reducible refine gate_store (t := 101) (p := 10) rfl ?_); refine fr_put H rfl rfl rfl rfl rfl (by repeat (first | exact At.head | apply At.tail)) (by rfl) (by kernel_rfl) (by simp [Value.oneCell']) ?_; intro w10_ H1; replace H := H1; clear H1)
        | ((with_reducible refine gate_dst (N := 23) rfl ?_); refine fr_get H rfl rfl rfl (by repeat (first | exact At.head | apply At.tail)) Tryz.underlying3 rfl (by simp only [List.getElem?_toArray, List.getElem?_cons_succ, List.getElem?_cons_zero]; rfl) ?_)
        | ((with_reducible refine gate_dst (N := 25) rfl ?_); refine fr_rowv H (N := 25) rfl rfl (fun K hK => by go_simp; exact hK.out) ?_; intro x25 w25 H1; replace H := H1; clear H1)
        | ((with_reducible refine gate_dst (N := 38) rfl ?_); refine fr_rowv H (N := 38) rfl rfl (fun K hK => by go_simp; exact hK.out) ?_; intro x38 w38 H1; replace H := H1; clear H1)
        | (go_at_call 50; (with_reducible refine (Clip_calls _ _).mono ?_); rintro e w' ⟨rfl, rfl⟩)
        | fail)
      refine bodyPost_ret (results_c rfl _ _ g10 101 _ (0, 0) _ rfl (H.of (by repeat (first | exact At.head | apply At.tail))) Tryz.underlying101 rfl (by kernel_rfl)) rfl ?_
      exact ⟨(by rw [HN.out]; try rfl), H.below⟩
    | false =>
      cases set with
      | true => cases hb
      | false =>
        clear hb
        have H := Fr.start0 (M := fun _ => False) (A := fun _ => False) (w := w) (p := fun _ => True) (fun _ h => h.elim) (fun _ _ => trivial)
        go_enter Tryz.func66, Tryz.ntmps66
        go_wp2_with (first
          | ((with_reducible refine gate_dst (N := 5) rfl ?_); refine fr_box H rfl rfl rfl ?_; intro g5 w5 H1; replace H := H1; clear H1)
          | ((with_reducible refine gate_dst (N := 6) rfl ?_); refine fr_box H rfl rfl rfl ?_; intro g6 w6 H1; replace H := H1; clear H1)
          | ((with_reducible refine gate_dst (N := 10) rfl ?_); refine fr_new H (N := 10) rfl rfl (cs := #[.int .i64 0, .bool false]) (t := 101) ?hr ?_; (case hr => first | (go_simp; done) | (go_simp; rfl)); intro g10 w10 H1; replace H := H1; clear H1)
          | ((with_reducible refine gate_dst (N := 16) rfl ?_); (try (refine gate_guard (by rfl) ?_; dsimp only)); refine fr_get H rfl rfl rfl (by repeat (first | exact At.head | apply At.tail)) Tryz.underlying4 rfl (by simp only [List.getElem?_toArray, List.getElem?_cons_succ, List.getElem?_cons_zero]; rfl) ?_)
          | ((with_reducible refine gate_store (t := 101) (p := 10) rfl ?_); refine fr_put H rfl rfl rfl rfl rfl (by repeat (first | exact At.head | apply At.tail)) (by rfl) (by kernel_rfl) (by simp [Value.oneCell']) ?_; intro w10_ H1; replace H := H1; clear H1)
          | ((with_reducible refine gate_dst (N := 23) rfl ?_); refine fr_get H rfl rfl rfl (by repeat (first | exact At.head | apply At.tail)) Tryz.underlying3 rfl (by simp only [List.getElem?_toArray, List.getElem?_cons_succ, List.getElem?_cons_zero]; rfl) ?_)
          | ((with_reducible refine gate_dst (N := 25) rfl ?_); refine fr_rowv H (N := 25) rfl rfl (fun K hK => by go_simp; exact hK.out) ?_; intro x25 w25 H1; replace H := H1; clear H1)
          | ((with_reducible refine gate_dst (N := 38) rfl ?_); refine fr_rowv H (N := 38) rfl rfl (fun K hK => by go_simp; exact hK.out) ?_; intro x38 w38 H1; replace H := H1; clear H1)
          | (go_at_call 50; (with_reducible refine (Clip_calls _ _).mono ?_); rintro e w' ⟨rfl, rfl⟩)
          | fail)
        refine bodyPost_ret (results_c rfl _ _ g10 101 _ (0, 0) _ rfl (H.of (by repeat (first | exact At.head | apply At.tail))) Tryz.underlying101 rfl (by kernel_rfl)) rfl ?_
        exact ⟨(by rw [HN.out]; try rfl), H.below⟩
  | false =>
    have HN := Lib.hid (show slewP p t set ticks z jump = sadd [sadd [t, ticks], bound (ssub z (sadd [t, ticks])) (sneg p.Mu) p.Mu] by unfold slewP; rw [if_neg (by rw [hb]; decide)])
    cases jump with
    | true => cases hb
    | false =>
      cases set with
      | false => cases hb
      | true =>
        clear hb
        have H := Fr.start0 (M := fun _ => False) (A := fun _ => False) (w := w) (p := fun _ => True) (fun _ h => h.elim) (fun _ _ => trivial)
        go_enter Tryz.func66, Tryz.ntmps66
        go_wp2_with (first
          | ((with_reducible refine gate_dst (N := 5) rfl ?_); refine fr_box H rfl rfl rfl ?_; intro g5 w5 H1; replace H := H1; clear H1)
          | ((with_reducible refine gate_dst (N := 6) rfl ?_); refine fr_box H rfl rfl rfl ?_; intro g6 w6 H1; replace H := H1; clear H1)
          | ((with_reducible refine gate_dst (N := 10) rfl ?_); refine fr_new H (N := 10) rfl rfl (cs := #[.int .i64 0, .bool false]) (t := 101) ?hr ?_; (case hr => first | (go_simp; done) | (go_simp; rfl)); intro g10 w10 H1; replace H := H1; clear H1)
          | ((with_reducible refine gate_dst (N := 16) rfl ?_); (try (refine gate_guard (by rfl) ?_; dsimp only)); refine fr_get H rfl rfl rfl (by repeat (first | exact At.head | apply At.tail)) Tryz.underlying4 rfl (by simp only [List.getElem?_toArray, List.getElem?_cons_succ, List.getElem?_cons_zero]; rfl) ?_)
          | ((with_reducible refine gate_store (t := 101) (p := 10) rfl ?_); refine fr_put H rfl rfl rfl rfl rfl (by repeat (first | exact At.head | apply At.tail)) (by rfl) (by kernel_rfl) (by simp [Value.oneCell']) ?_; intro w10_ H1; replace H := H1; clear H1)
          | ((with_reducible refine gate_dst (N := 23) rfl ?_); refine fr_get H rfl rfl rfl (by repeat (first | exact At.head | apply At.tail)) Tryz.underlying3 rfl (by simp only [List.getElem?_toArray, List.getElem?_cons_succ, List.getElem?_cons_zero]; rfl) ?_)
          | ((with_reducible refine gate_dst (N := 25) rfl ?_); refine fr_rowv H (N := 25) rfl rfl (fun K hK => by go_simp; exact hK.out) ?_; intro x25 w25 H1; replace H := H1; clear H1)
          | ((with_reducible refine gate_dst (N := 38) rfl ?_); refine fr_rowv H (N := 38) rfl rfl (fun K hK => by go_simp; exact hK.out) ?_; intro x38 w38 H1; replace H := H1; clear H1)
          | (go_at_call 52; (with_reducible refine (Add2 (H.of At.head)).mono ?_); rintro e w' ⟨rfl, hb⟩; have H1 := H.call hb; clear hb; replace H := H1; clear H1)
          | fail)
        refine ko_region0 H (by kernel_rfl) (by as_aux_lemma => kernel_rfl) (fun HR => ?_)
        repeat (first
          | ((with_reducible refine kg_call (f := 58) rfl ?_); refine ko_call 58 _ rfl (by rfl) Tryz.func58 (by kernel_rfl) rfl (by kernel_rfl) (by simp only [List.map_toArray, List.map_cons, List.map_nil]; rfl) (fun W hC hd => ret_below (Sub_calls _ _ _)) ?_; (try simp only [Act.put, lsA, lsZ, lsS, Nat.reduceAdd]))
          | ((with_reducible refine kg_call (f := 60) rfl ?_); refine ko_call 60 _ rfl (by rfl) Tryz.func60 (by kernel_rfl) rfl (by kernel_rfl) (by simp only [List.map_toArray, List.map_cons, List.map_nil]; rfl) (fun W hC hd => ret_below (Neg_calls _ _)) ?_; (try simp only [Act.put, lsA, lsZ, lsS, Nat.reduceAdd]))
          | ((with_reducible refine kg_call (f := 51) rfl ?_); refine ko_call 51 _ rfl (by rfl) Tryz.func51 (by kernel_rfl) rfl (by kernel_rfl) (by simp only [List.map_toArray, List.map_cons, List.map_nil]; rfl) (fun W hC hd => ret_below (Bound_calls _ _ _ _)) ?_; (try simp only [Act.put, lsA, lsZ, lsS, Nat.reduceAdd]))
          | ((with_reducible refine kg_load (ty := 3) rfl ?_); refine ko_get HR rfl (by rfl) (by rfl) (by repeat (first | exact At.head | apply At.tail)) Tryz.underlying3 rfl (by simp only [List.getElem?_toArray, List.getElem?_cons_succ, List.getElem?_cons_zero]; rfl) ?_; (try simp only [Act.put, lsA, lsZ, lsS, Nat.reduceAdd]))
          | (refine ko_pure rfl (by rfl) (fun W K hK => by go_simp; exact hK.out) ?_; (try simp only [Act.put, lsA, lsZ, lsS, Nat.reduceAdd]))
          | (refine ko_off (by rfl) ?_; (try simp only [Act.put, lsA, lsZ, lsS, Nat.reduceAdd])))
        refine ko_end ?_
        intro w1 H1
        clear HR H
        have H := H1
        clear H1
        (try simp only [List.map_cons, List.map_nil, cv, List.cons_append, List.nil_append] at H)
        go_wp2_with (first
          | ((with_reducible refine gate_dst (N := 5) rfl ?_); refine fr_box H rfl rfl rfl ?_; intro g5 w5 H1; replace H := H1; clear H1)
          | ((with_reducible refine gate_dst (N := 6) rfl ?_); refine fr_box H rfl rfl rfl ?_; intro g6 w6 H1; replace H := H1; clear H1)
          | ((with_reducible refine gate_dst (N := 10) rfl ?_); refine fr_new H (N := 10) rfl rfl (cs := #[.int .i64 0, .bool false]) (t := 101) ?hr ?_; (case hr => first | (go_simp; done) | (go_simp; rfl)); intro g10 w10 H1; replace H := H1; clear H1)
          | ((with_reducible refine gate_dst (N := 16) rfl ?_); (try (refine gate_guard (by rfl) ?_; dsimp only)); refine fr_get H rfl rfl rfl (by repeat (first | exact At.head | apply At.tail)) Tryz.underlying4 rfl (by simp only [List.getElem?_toArray, List.getElem?_cons_succ, List.getElem?_cons_zero]; rfl) ?_)
          | ((with_reducible refine gate_store (t := 101) (p := 10) rfl ?_); refine fr_put H rfl rfl rfl rfl rfl (by repeat (first | exact At.head | apply At.tail)) (by rfl) (by kernel_rfl) (by simp [Value.oneCell']) ?_; intro w10_ H1; replace H := H1; clear H1)
          | ((with_reducible refine gate_dst (N := 23) rfl ?_); refine fr_get H rfl rfl rfl (by repeat (first | exact At.head | apply At.tail)) Tryz.underlying3 rfl (by simp only [List.getElem?_toArray, List.getElem?_cons_succ, List.getElem?_cons_zero]; rfl) ?_)
          | ((with_reducible refine gate_dst (N := 25) rfl ?_); refine fr_rowv H (N := 25) rfl rfl (fun K hK => by go_simp; exact hK.out) ?_; intro x25 w25 H1; replace H := H1; clear H1)
          | ((with_reducible refine gate_dst (N := 38) rfl ?_); refine fr_rowv H (N := 38) rfl rfl (fun K hK => by go_simp; exact hK.out) ?_; intro x38 w38 H1; replace H := H1; clear H1)
          | (go_at_call 52; (with_reducible refine (Add2 (H.of At.head)).mono ?_); rintro e w' ⟨rfl, hb⟩; have H1 := H.call hb; clear hb; replace H := H1; clear H1)
          | fail)
        refine bodyPost_ret (results_c rfl _ _ g10 101 _ (0, 0) _ rfl (H.of (by repeat (first | exact At.head | apply At.tail))) Tryz.underlying101 rfl (by kernel_rfl)) rfl ?_
        exact ⟨(by rw [HN.out]; try rfl), H.below⟩
end Go.Proofs.YtbmfgcekglgliaaGreat.G

namespace Go.Proofs.YtbmfgcekglgliaaGreat.G
open Go.RowKit Go.Proofs.YtbmfgcekglgliaaGreatW.PrintWords Go.Proofs.YtbmfgcekglgliaaGreatW.PrintLast Go.Proofs.YtbmfgcekglgliaaGreatW.PrintMore Go.Proofs.YtbmfgcekglgliaaGreatPl Go.Proofs.YtbmfgcekglgliaaGreatEm Go.Proofs.YtbmfgcekglgliaaGreatKr
set_option linter.unusedVariables false
set_option linter.unusedSimpArgs false
def moreP (held : Int) : Int := bound (sadd [held, 1]) 0 1073741824
set_option maxHeartbeats 1000000 in
theorem More_calls (held : Int) (w : World) : Calls Tryz.prog 33 #[.int .i64 held] w fun e w' => e = .returned (.int .i64 (moreP held)) ∧ Below w.heap.size w w' := by
  have H := Fr.start0 (M := fun _ => False) (A := fun _ => False) (w := w) (p := fun _ => True) (fun _ h => h.elim) (fun _ _ => trivial)
  go_enter Tryz.func33, Tryz.ntmps33
  go_wp2_with (first
    | ((with_reducible refine gate_dst (N := 4) rfl ?_); refine fr_rowv H (N := 4) rfl rfl (fun K hK => by go_simp; exact hK.out) ?_; intro x4 w4 H1; replace H := H1; clear H1)
    | (go_at_call 52; (with_reducible refine (Add2 (H.of At.head)).mono ?_); rintro e w' ⟨rfl, hb⟩; have H1 := H.call hb; clear hb; replace H := H1; clear H1)
    | (go_at_call 51; (with_reducible refine (Bound_calls _ _ _ _).mono ?_); rintro e w' ⟨rfl, rfl⟩)
    | fail)
  go_ret
  exact ⟨rfl, H.below⟩
def seenB (p : Par) (r : Int) : Bool := decide (r ≤ 1152921504606846976) && decide (-1152921504606846976 ≤ r) && decide (0 ≤ p.Eps)
def seenP (p : Par) (r : Int) : Int × Int := if seenB p r = true then (ssub r p.Eps, sadd [r, p.Eps]) else (0, 0)
set_option maxHeartbeats 2000000 in
set_option maxRecDepth 100000 in
theorem Seen_calls (p : Par) (r : Int) (w : World) : Calls Tryz.prog 30 #[.agg #[.int .i64 p.N, .int .i64 p.F, .int .i64 p.D, .int .i64 p.Be, .int .i64 p.Rho, .int .i64 p.De, .int .i64 p.Ji, .int .i64 p.Eps, .int .i64 p.Mu, .int .i64 p.Ho, .int .i64 p.Pu, .int .i64 p.Se], .int .i64 r] w fun e w' => e = .returned (.tuple #[.agg #[.int .i64 (seenP p r).1, .int .i64 (seenP p r).2], .bool (seenB p r)]) ∧ Below w.heap.size w w' := by
  by_cases h1 : 1152921504606846976 < r
  · have d1 : decide (1152921504606846976 < r) = true := decide_eq_true h1
    have hb : seenB p r = false := by unfold seenB; rw [decide_eq_false (by omega)]; rfl
    clear h1
    have HS := Lib.hid (show seenP p r = (0, 0) by unfold seenP; rw [hb]; rfl)
    have HB := Lib.hid hb
    clear hb
    have H := Fr.start0 (M := fun _ => False) (A := fun _ => False) (w := w) (p := fun _ => True) (fun _ h => h.elim) (fun _ _ => trivial)
    go_enter Tryz.func30, Tryz.ntmps30
    go_wp2_with (first
      | ((with_reducible refine gate_dst (N := 2) rfl ?_); refine fr_box H rfl rfl rfl ?_; intro g2 w2 H1; replace H := H1; clear H1)
      | ((with_reducible refine gate_dst (N := 4) rfl ?_); refine fr_new H (N := 4) rfl rfl (cs := #[.int .i64 0, .int .i64 0]) (t := 25) ?hr ?_; (case hr => first | (go_simp; done) | (go_simp; rfl)); intro g4 w4 H1; replace H := H1; clear H1)
      | ((with_reducible refine gate_dst (N := 14) rfl ?_); (try (refine gate_guard (by rfl) ?_; dsimp only)); refine fr_get H rfl rfl rfl (by repeat (first | exact At.head | apply At.tail)) Tryz.underlying3 rfl (by simp only [List.getElem?_toArray, List.getElem?_cons_succ, List.getElem?_cons_zero]; rfl) ?_)
      | ((with_reducible refine gate_store (t := 25) (p := 4) rfl ?_); refine fr_put H rfl rfl rfl rfl rfl (by repeat (first | exact At.head | apply At.tail)) (by rfl) (by kernel_rfl) (by simp [Value.oneCell']) ?_; intro w4_ H1; replace H := H1; clear H1)
      | fail)
    refine bodyPost_ret (results_ct rfl _ _ g4 25 _ (0, 0) _ rfl (H.of (by repeat (first | exact At.head | apply At.tail))) Tryz.underlying25 rfl (by kernel_rfl)) rfl ?_
    exact ⟨(by rw [HS.out, HB.out]; try rfl), H.below⟩
  · have d1 : decide (1152921504606846976 < r) = false := decide_eq_false h1
    by_cases h2 : r < -1152921504606846976
    · have d2 : decide (r < -1152921504606846976) = true := decide_eq_true h2
      have hb : seenB p r = false := by unfold seenB; rw [decide_eq_false (p := -1152921504606846976 ≤ r) (by omega), Bool.and_false]; rfl
      clear h1 h2
      have HS := Lib.hid (show seenP p r = (0, 0) by unfold seenP; rw [hb]; rfl)
      have HB := Lib.hid hb
      clear hb
      have H := Fr.start0 (M := fun _ => False) (A := fun _ => False) (w := w) (p := fun _ => True) (fun _ h => h.elim) (fun _ _ => trivial)
      go_enter Tryz.func30, Tryz.ntmps30
      go_wp2_with (first
        | ((with_reducible refine gate_dst (N := 2) rfl ?_); refine fr_box H rfl rfl rfl ?_; intro g2 w2 H1; replace H := H1; clear H1)
        | ((with_reducible refine gate_dst (N := 4) rfl ?_); refine fr_new H (N := 4) rfl rfl (cs := #[.int .i64 0, .int .i64 0]) (t := 25) ?hr ?_; (case hr => first | (go_simp; done) | (go_simp; rfl)); intro g4 w4 H1; replace H := H1; clear H1)
        | ((with_reducible refine gate_dst (N := 14) rfl ?_); (try (refine gate_guard (by rfl) ?_; dsimp only)); refine fr_get H rfl rfl rfl (by repeat (first | exact At.head | apply At.tail)) Tryz.underlying3 rfl (by simp only [List.getElem?_toArray, List.getElem?_cons_succ, List.getElem?_cons_zero]; rfl) ?_)
        | ((with_reducible refine gate_store (t := 25) (p := 4) rfl ?_); refine fr_put H rfl rfl rfl rfl rfl (by repeat (first | exact At.head | apply At.tail)) (by rfl) (by kernel_rfl) (by simp [Value.oneCell']) ?_; intro w4_ H1; replace H := H1; clear H1)
        | fail)
      refine bodyPost_ret (results_ct rfl _ _ g4 25 _ (0, 0) _ rfl (H.of (by repeat (first | exact At.head | apply At.tail))) Tryz.underlying25 rfl (by kernel_rfl)) rfl ?_
      exact ⟨(by rw [HS.out, HB.out]; try rfl), H.below⟩
    · have d2 : decide (r < -1152921504606846976) = false := decide_eq_false h2
      by_cases h3 : p.Eps < 0
      · have d3 : decide (p.Eps < 0) = true := decide_eq_true h3
        have hb : seenB p r = false := by unfold seenB; rw [decide_eq_false (p := 0 ≤ p.Eps) (by omega), Bool.and_false]
        clear h1 h2 h3
        have HS := Lib.hid (show seenP p r = (0, 0) by unfold seenP; rw [hb]; rfl)
        have HB := Lib.hid hb
        clear hb
        have H := Fr.start0 (M := fun _ => False) (A := fun _ => False) (w := w) (p := fun _ => True) (fun _ h => h.elim) (fun _ _ => trivial)
        go_enter Tryz.func30, Tryz.ntmps30
        go_wp2_with (first
          | ((with_reducible refine gate_dst (N := 2) rfl ?_); refine fr_box H rfl rfl rfl ?_; intro g2 w2 H1; replace H := H1; clear H1)
          | ((with_reducible refine gate_dst (N := 4) rfl ?_); refine fr_new H (N := 4) rfl rfl (cs := #[.int .i64 0, .int .i64 0]) (t := 25) ?hr ?_; (case hr => first | (go_simp; done) | (go_simp; rfl)); intro g4 w4 H1; replace H := H1; clear H1)
          | ((with_reducible refine gate_dst (N := 14) rfl ?_); (try (refine gate_guard (by rfl) ?_; dsimp only)); refine fr_get H rfl rfl rfl (by repeat (first | exact At.head | apply At.tail)) Tryz.underlying3 rfl (by simp only [List.getElem?_toArray, List.getElem?_cons_succ, List.getElem?_cons_zero]; rfl) ?_)
          | ((with_reducible refine gate_store (t := 25) (p := 4) rfl ?_); refine fr_put H rfl rfl rfl rfl rfl (by repeat (first | exact At.head | apply At.tail)) (by rfl) (by kernel_rfl) (by simp [Value.oneCell']) ?_; intro w4_ H1; replace H := H1; clear H1)
          | fail)
        refine bodyPost_ret (results_ct rfl _ _ g4 25 _ (0, 0) _ rfl (H.of (by repeat (first | exact At.head | apply At.tail))) Tryz.underlying25 rfl (by kernel_rfl)) rfl ?_
        exact ⟨(by rw [HS.out, HB.out]; try rfl), H.below⟩
      · have d3 : decide (p.Eps < 0) = false := decide_eq_false h3
        have hb : seenB p r = true := by unfold seenB; rw [decide_eq_true (by omega), decide_eq_true (by omega), decide_eq_true (by omega)]; rfl
        clear h1 h2 h3
        have HS := Lib.hid (show seenP p r = (ssub r p.Eps, sadd [r, p.Eps]) by unfold seenP; rw [hb]; rfl)
        have HB := Lib.hid hb
        clear hb
        have H := Fr.start0 (M := fun _ => False) (A := fun _ => False) (w := w) (p := fun _ => True) (fun _ h => h.elim) (fun _ _ => trivial)
        go_enter Tryz.func30, Tryz.ntmps30
        go_wp2_with (first
          | ((with_reducible refine gate_dst (N := 2) rfl ?_); refine fr_box H rfl rfl rfl ?_; intro g2 w2 H1; replace H := H1; clear H1)
          | ((with_reducible refine gate_dst (N := 4) rfl ?_); refine fr_new H (N := 4) rfl rfl (cs := #[.int .i64 0, .int .i64 0]) (t := 25) ?hr ?_; (case hr => first | (go_simp; done) | (go_simp; rfl)); intro g4 w4 H1; replace H := H1; clear H1)
          | ((with_reducible refine gate_dst (N := 14) rfl ?_); (try (refine gate_guard (by rfl) ?_; dsimp only)); refine fr_get H rfl rfl rfl (by repeat (first | exact At.head | apply At.tail)) Tryz.underlying3 rfl (by simp only [List.getElem?_toArray, List.getElem?_cons_succ, List.getElem?_cons_zero]; rfl) ?_)
          | ((with_reducible refine gate_store (t := 25) (p := 4) rfl ?_); refine fr_put H rfl rfl rfl rfl rfl (by repeat (first | exact At.head | apply At.tail)) (by rfl) (by kernel_rfl) (by simp [Value.oneCell']) ?_; intro w4_ H1; replace H := H1; clear H1)
          | fail)
        refine ko_region1 H (by simp only [List.length_cons, List.length_nil, Nat.reduceAdd]; rfl) (g := g4) (by repeat (first | exact Take.head | apply Take.tail)) (by kernel_rfl) (by as_aux_lemma => kernel_rfl) (fun HR => ?_)
        repeat (first
          | ((with_reducible refine kg_call (f := 52) rfl ?_); refine ko_call 52 _ rfl (by rfl) Tryz.func52 (by kernel_rfl) rfl (by kernel_rfl) (by simp only [List.map_toArray, List.map_cons, List.map_nil]; rfl) (fun W hC hd => Add2 (by first | exact depH.hd hd (by kernel_rfl) | exact depH.hd (depH.tl hd) (by kernel_rfl) | exact depH.hd (depH.tl (depH.tl hd)) (by kernel_rfl))) ?_; (try simp only [Act.put, lsA, lsZ, lsS, Nat.reduceAdd]))
          | ((with_reducible refine kg_call (f := 58) rfl ?_); refine ko_call 58 _ rfl (by rfl) Tryz.func58 (by kernel_rfl) rfl (by kernel_rfl) (by simp only [List.map_toArray, List.map_cons, List.map_nil]; rfl) (fun W hC hd => ret_below (Sub_calls _ _ _)) ?_; (try simp only [Act.put, lsA, lsZ, lsS, Nat.reduceAdd]))
          | ((with_reducible refine kg_load (ty := 3) rfl ?_); refine ko_get HR rfl (by rfl) (by rfl) (by repeat (first | exact At.head | apply At.tail)) Tryz.underlying3 rfl (by simp only [List.getElem?_toArray, List.getElem?_cons_succ, List.getElem?_cons_zero]; rfl) ?_; (try simp only [Act.put, lsA, lsZ, lsS, Nat.reduceAdd]))
          | ((with_reducible refine kg_dst (N := 25) rfl ?_); refine ko_row rfl (by rfl) (fun W K hK => by go_simp; exact hK.out) ?_; intro x25; (try simp only [Act.put, lsA, lsZ, lsS, Nat.reduceAdd]))
          | ((with_reducible refine kg_store (ty := 25) rfl ?_); refine ko_put (u := .agg (List.toArray _)) rfl rfl (by rfl) (by rfl) (by rfl) (by repeat (first | exact VarAt.head | apply VarAt.tail)) (by kernel_rfl) (Nat.le_of_ble_eq_true rfl) (by simp only [Value.cells, List.take_succ_cons, List.take_zero, List.drop_succ_cons, List.drop_zero, List.cons_append, List.nil_append, List.length_cons, List.length_nil, Nat.reduceAdd, List.append_nil, List.drop_nil, List.take_nil]; rfl) (by repeat (first | exact VarAt.head | apply VarAt.tail)) (by simp [apartR, Value.cells]) (by kernel_rfl) (by simp [Value.cells, Value.oneCell']) ?_; (try simp only [Value.cells, List.length_cons, List.length_nil, Nat.reduceAdd]))
          | (refine ko_pure rfl (by rfl) (fun W K hK => by go_simp; exact hK.out) ?_; (try simp only [Act.put, lsA, lsZ, lsS, Nat.reduceAdd]))
          | (refine ko_off (by rfl) ?_; (try simp only [Act.put, lsA, lsZ, lsS, Nat.reduceAdd])))
        refine ko_end ?_
        intro w1 H1
        clear HR H
        have H := H1
        clear H1
        (try simp only [List.map_cons, List.map_nil, cv, List.cons_append, List.nil_append] at H)
        go_wp2
        refine bodyPost_ret (results_ct rfl _ _ g4 25 _ (0, 0) _ rfl (H.of (by repeat (first | exact At.head | apply At.tail))) Tryz.underlying25 rfl (by kernel_rfl)) rfl ?_
        exact ⟨(by rw [HS.out, HB.out]; try rfl), H.below⟩
def ofP (p : Par) (set good : Bool) (held hops : Int) : Int := if (!good || !set || decide (p.D < hops)) = true then 0 else if p.Ho < held then 2 else 1
set_option maxHeartbeats 2000000 in
set_option maxRecDepth 100000 in
theorem Of_calls (p : Par) (lo hi time : Int) (set : Bool) (held hops : Int) (good : Bool) (A : Option Addr) (n c : Nat) (st sn life : Int) (w : World) :
    Calls Tryz.prog 64 #[.agg #[.int .i64 p.N, .int .i64 p.F, .int .i64 p.D, .int .i64 p.Be, .int .i64 p.Rho, .int .i64 p.De, .int .i64 p.Ji, .int .i64 p.Eps, .int .i64 p.Mu, .int .i64 p.Ho, .int .i64 p.Pu, .int .i64 p.Se], .agg #[.int .i64 lo, .int .i64 hi, .int .i64 time, .bool set, .int .i64 held, .int .i64 hops, .bool good, .slice A n c, .int .i64 st, .int .i64 sn, .int .i64 life]] w fun e w' => e = .returned (.int .i64 (ofP p set good held hops)) ∧ Below w.heap.size w w' := by
  cases good with
  | false =>
    have HO := Lib.hid (show ofP p set false held hops = 0 by unfold ofP; simp)
    have h1 : True := trivial
    clear h1
    have H := Fr.start0 (M := fun _ => False) (A := fun _ => False) (w := w) (p := fun _ => True) (fun _ h => h.elim) (fun _ _ => trivial)
    go_enter Tryz.func64, Tryz.ntmps64
    go_wp2_with (first
      | ((with_reducible refine gate_dst (N := 2) rfl ?_); refine fr_box H rfl rfl rfl ?_; intro g2 w2 H1; replace H := H1; clear H1)
      | ((with_reducible refine gate_dst (N := 3) rfl ?_); refine fr_box H rfl rfl rfl ?_; intro g3 w3 H1; replace H := H1; clear H1)
      | ((with_reducible refine gate_dst (N := 7) rfl ?_); refine fr_get H rfl rfl rfl (by repeat (first | exact At.head | apply At.tail)) Tryz.underlying4 rfl (by simp only [List.getElem?_toArray, List.getElem?_cons_succ, List.getElem?_cons_zero]; rfl) ?_)
      | ((with_reducible refine gate_dst (N := 11) rfl ?_); (try (refine gate_guard (by rfl) ?_; dsimp only)); refine fr_get H rfl rfl rfl (by repeat (first | exact At.head | apply At.tail)) Tryz.underlying4 rfl (by simp only [List.getElem?_toArray, List.getElem?_cons_succ, List.getElem?_cons_zero]; rfl) ?_)
      | ((with_reducible refine gate_dst (N := 16) rfl ?_); (try (refine gate_guard (by rfl) ?_; dsimp only)); refine fr_get H rfl rfl rfl (by repeat (first | exact At.head | apply At.tail)) Tryz.underlying3 rfl (by simp only [List.getElem?_toArray, List.getElem?_cons_succ, List.getElem?_cons_zero]; rfl) ?_)
      | ((with_reducible refine gate_dst (N := 18) rfl ?_); (try (refine gate_guard (by rfl) ?_; dsimp only)); refine fr_get H rfl rfl rfl (by repeat (first | exact At.head | apply At.tail)) Tryz.underlying3 rfl (by simp only [List.getElem?_toArray, List.getElem?_cons_succ, List.getElem?_cons_zero]; rfl) ?_)
      | ((with_reducible refine gate_dst (N := 23) rfl ?_); refine fr_get H rfl rfl rfl (by repeat (first | exact At.head | apply At.tail)) Tryz.underlying3 rfl (by simp only [List.getElem?_toArray, List.getElem?_cons_succ, List.getElem?_cons_zero]; rfl) ?_)
      | ((with_reducible refine gate_dst (N := 25) rfl ?_); refine fr_get H rfl rfl rfl (by repeat (first | exact At.head | apply At.tail)) Tryz.underlying3 rfl (by simp only [List.getElem?_toArray, List.getElem?_cons_succ, List.getElem?_cons_zero]; rfl) ?_)
      | fail)
    go_ret
    exact ⟨(by rw [HO.out]; try rfl), H.below⟩
  | true =>
    cases set with
    | false =>
      have HO := Lib.hid (show ofP p false true held hops = 0 by unfold ofP; simp)
      have h1 : True := trivial
      clear h1
      have H := Fr.start0 (M := fun _ => False) (A := fun _ => False) (w := w) (p := fun _ => True) (fun _ h => h.elim) (fun _ _ => trivial)
      go_enter Tryz.func64, Tryz.ntmps64
      go_wp2_with (first
        | ((with_reducible refine gate_dst (N := 2) rfl ?_); refine fr_box H rfl rfl rfl ?_; intro g2 w2 H1; replace H := H1; clear H1)
        | ((with_reducible refine gate_dst (N := 3) rfl ?_); refine fr_box H rfl rfl rfl ?_; intro g3 w3 H1; replace H := H1; clear H1)
        | ((with_reducible refine gate_dst (N := 7) rfl ?_); refine fr_get H rfl rfl rfl (by repeat (first | exact At.head | apply At.tail)) Tryz.underlying4 rfl (by simp only [List.getElem?_toArray, List.getElem?_cons_succ, List.getElem?_cons_zero]; rfl) ?_)
        | ((with_reducible refine gate_dst (N := 11) rfl ?_); (try (refine gate_guard (by rfl) ?_; dsimp only)); refine fr_get H rfl rfl rfl (by repeat (first | exact At.head | apply At.tail)) Tryz.underlying4 rfl (by simp only [List.getElem?_toArray, List.getElem?_cons_succ, List.getElem?_cons_zero]; rfl) ?_)
        | ((with_reducible refine gate_dst (N := 16) rfl ?_); (try (refine gate_guard (by rfl) ?_; dsimp only)); refine fr_get H rfl rfl rfl (by repeat (first | exact At.head | apply At.tail)) Tryz.underlying3 rfl (by simp only [List.getElem?_toArray, List.getElem?_cons_succ, List.getElem?_cons_zero]; rfl) ?_)
        | ((with_reducible refine gate_dst (N := 18) rfl ?_); (try (refine gate_guard (by rfl) ?_; dsimp only)); refine fr_get H rfl rfl rfl (by repeat (first | exact At.head | apply At.tail)) Tryz.underlying3 rfl (by simp only [List.getElem?_toArray, List.getElem?_cons_succ, List.getElem?_cons_zero]; rfl) ?_)
        | ((with_reducible refine gate_dst (N := 23) rfl ?_); refine fr_get H rfl rfl rfl (by repeat (first | exact At.head | apply At.tail)) Tryz.underlying3 rfl (by simp only [List.getElem?_toArray, List.getElem?_cons_succ, List.getElem?_cons_zero]; rfl) ?_)
        | ((with_reducible refine gate_dst (N := 25) rfl ?_); refine fr_get H rfl rfl rfl (by repeat (first | exact At.head | apply At.tail)) Tryz.underlying3 rfl (by simp only [List.getElem?_toArray, List.getElem?_cons_succ, List.getElem?_cons_zero]; rfl) ?_)
        | fail)
      go_ret
      exact ⟨(by rw [HO.out]; try rfl), H.below⟩
    | true =>
      by_cases h1 : p.D < hops
      · have d1 : decide (p.D < hops) = true := decide_eq_true h1
        have HO := Lib.hid (show ofP p true true held hops = 0 by unfold ofP; simp [h1])
        clear h1
        have H := Fr.start0 (M := fun _ => False) (A := fun _ => False) (w := w) (p := fun _ => True) (fun _ h => h.elim) (fun _ _ => trivial)
        go_enter Tryz.func64, Tryz.ntmps64
        go_wp2_with (first
          | ((with_reducible refine gate_dst (N := 2) rfl ?_); refine fr_box H rfl rfl rfl ?_; intro g2 w2 H1; replace H := H1; clear H1)
          | ((with_reducible refine gate_dst (N := 3) rfl ?_); refine fr_box H rfl rfl rfl ?_; intro g3 w3 H1; replace H := H1; clear H1)
          | ((with_reducible refine gate_dst (N := 7) rfl ?_); refine fr_get H rfl rfl rfl (by repeat (first | exact At.head | apply At.tail)) Tryz.underlying4 rfl (by simp only [List.getElem?_toArray, List.getElem?_cons_succ, List.getElem?_cons_zero]; rfl) ?_)
          | ((with_reducible refine gate_dst (N := 11) rfl ?_); (try (refine gate_guard (by rfl) ?_; dsimp only)); refine fr_get H rfl rfl rfl (by repeat (first | exact At.head | apply At.tail)) Tryz.underlying4 rfl (by simp only [List.getElem?_toArray, List.getElem?_cons_succ, List.getElem?_cons_zero]; rfl) ?_)
          | ((with_reducible refine gate_dst (N := 16) rfl ?_); (try (refine gate_guard (by rfl) ?_; dsimp only)); refine fr_get H rfl rfl rfl (by repeat (first | exact At.head | apply At.tail)) Tryz.underlying3 rfl (by simp only [List.getElem?_toArray, List.getElem?_cons_succ, List.getElem?_cons_zero]; rfl) ?_)
          | ((with_reducible refine gate_dst (N := 18) rfl ?_); (try (refine gate_guard (by rfl) ?_; dsimp only)); refine fr_get H rfl rfl rfl (by repeat (first | exact At.head | apply At.tail)) Tryz.underlying3 rfl (by simp only [List.getElem?_toArray, List.getElem?_cons_succ, List.getElem?_cons_zero]; rfl) ?_)
          | ((with_reducible refine gate_dst (N := 23) rfl ?_); refine fr_get H rfl rfl rfl (by repeat (first | exact At.head | apply At.tail)) Tryz.underlying3 rfl (by simp only [List.getElem?_toArray, List.getElem?_cons_succ, List.getElem?_cons_zero]; rfl) ?_)
          | ((with_reducible refine gate_dst (N := 25) rfl ?_); refine fr_get H rfl rfl rfl (by repeat (first | exact At.head | apply At.tail)) Tryz.underlying3 rfl (by simp only [List.getElem?_toArray, List.getElem?_cons_succ, List.getElem?_cons_zero]; rfl) ?_)
          | fail)
        go_ret
        exact ⟨(by rw [HO.out]; try rfl), H.below⟩
      · have d1 : decide (p.D < hops) = false := decide_eq_false h1
        by_cases h2 : p.Ho < held
        · have d2 : decide (p.Ho < held) = true := decide_eq_true h2
          have HO := Lib.hid (show ofP p true true held hops = 2 by unfold ofP; simp [h1, h2])
          clear h2
          clear h1
          have H := Fr.start0 (M := fun _ => False) (A := fun _ => False) (w := w) (p := fun _ => True) (fun _ h => h.elim) (fun _ _ => trivial)
          go_enter Tryz.func64, Tryz.ntmps64
          go_wp2_with (first
            | ((with_reducible refine gate_dst (N := 2) rfl ?_); refine fr_box H rfl rfl rfl ?_; intro g2 w2 H1; replace H := H1; clear H1)
            | ((with_reducible refine gate_dst (N := 3) rfl ?_); refine fr_box H rfl rfl rfl ?_; intro g3 w3 H1; replace H := H1; clear H1)
            | ((with_reducible refine gate_dst (N := 7) rfl ?_); refine fr_get H rfl rfl rfl (by repeat (first | exact At.head | apply At.tail)) Tryz.underlying4 rfl (by simp only [List.getElem?_toArray, List.getElem?_cons_succ, List.getElem?_cons_zero]; rfl) ?_)
            | ((with_reducible refine gate_dst (N := 11) rfl ?_); (try (refine gate_guard (by rfl) ?_; dsimp only)); refine fr_get H rfl rfl rfl (by repeat (first | exact At.head | apply At.tail)) Tryz.underlying4 rfl (by simp only [List.getElem?_toArray, List.getElem?_cons_succ, List.getElem?_cons_zero]; rfl) ?_)
            | ((with_reducible refine gate_dst (N := 16) rfl ?_); (try (refine gate_guard (by rfl) ?_; dsimp only)); refine fr_get H rfl rfl rfl (by repeat (first | exact At.head | apply At.tail)) Tryz.underlying3 rfl (by simp only [List.getElem?_toArray, List.getElem?_cons_succ, List.getElem?_cons_zero]; rfl) ?_)
            | ((with_reducible refine gate_dst (N := 18) rfl ?_); (try (refine gate_guard (by rfl) ?_; dsimp only)); refine fr_get H rfl rfl rfl (by repeat (first | exact At.head | apply At.tail)) Tryz.underlying3 rfl (by simp only [List.getElem?_toArray, List.getElem?_cons_succ, List.getElem?_cons_zero]; rfl) ?_)
            | ((with_reducible refine gate_dst (N := 23) rfl ?_); refine fr_get H rfl rfl rfl (by repeat (first | exact At.head | apply At.tail)) Tryz.underlying3 rfl (by simp only [List.getElem?_toArray, List.getElem?_cons_succ, List.getElem?_cons_zero]; rfl) ?_)
            | ((with_reducible refine gate_dst (N := 25) rfl ?_); refine fr_get H rfl rfl rfl (by repeat (first | exact At.head | apply At.tail)) Tryz.underlying3 rfl (by simp only [List.getElem?_toArray, List.getElem?_cons_succ, List.getElem?_cons_zero]; rfl) ?_)
            | fail)
          go_ret
          exact ⟨(by rw [HO.out]; try rfl), H.below⟩
        · have d2 : decide (p.Ho < held) = false := decide_eq_false h2
          have HO := Lib.hid (show ofP p true true held hops = 1 by unfold ofP; simp [h1, h2])
          clear h2
          clear h1
          have H := Fr.start0 (M := fun _ => False) (A := fun _ => False) (w := w) (p := fun _ => True) (fun _ h => h.elim) (fun _ _ => trivial)
          go_enter Tryz.func64, Tryz.ntmps64
          go_wp2_with (first
            | ((with_reducible refine gate_dst (N := 2) rfl ?_); refine fr_box H rfl rfl rfl ?_; intro g2 w2 H1; replace H := H1; clear H1)
            | ((with_reducible refine gate_dst (N := 3) rfl ?_); refine fr_box H rfl rfl rfl ?_; intro g3 w3 H1; replace H := H1; clear H1)
            | ((with_reducible refine gate_dst (N := 7) rfl ?_); refine fr_get H rfl rfl rfl (by repeat (first | exact At.head | apply At.tail)) Tryz.underlying4 rfl (by simp only [List.getElem?_toArray, List.getElem?_cons_succ, List.getElem?_cons_zero]; rfl) ?_)
            | ((with_reducible refine gate_dst (N := 11) rfl ?_); (try (refine gate_guard (by rfl) ?_; dsimp only)); refine fr_get H rfl rfl rfl (by repeat (first | exact At.head | apply At.tail)) Tryz.underlying4 rfl (by simp only [List.getElem?_toArray, List.getElem?_cons_succ, List.getElem?_cons_zero]; rfl) ?_)
            | ((with_reducible refine gate_dst (N := 16) rfl ?_); (try (refine gate_guard (by rfl) ?_; dsimp only)); refine fr_get H rfl rfl rfl (by repeat (first | exact At.head | apply At.tail)) Tryz.underlying3 rfl (by simp only [List.getElem?_toArray, List.getElem?_cons_succ, List.getElem?_cons_zero]; rfl) ?_)
            | ((with_reducible refine gate_dst (N := 18) rfl ?_); (try (refine gate_guard (by rfl) ?_; dsimp only)); refine fr_get H rfl rfl rfl (by repeat (first | exact At.head | apply At.tail)) Tryz.underlying3 rfl (by simp only [List.getElem?_toArray, List.getElem?_cons_succ, List.getElem?_cons_zero]; rfl) ?_)
            | ((with_reducible refine gate_dst (N := 23) rfl ?_); refine fr_get H rfl rfl rfl (by repeat (first | exact At.head | apply At.tail)) Tryz.underlying3 rfl (by simp only [List.getElem?_toArray, List.getElem?_cons_succ, List.getElem?_cons_zero]; rfl) ?_)
            | ((with_reducible refine gate_dst (N := 25) rfl ?_); refine fr_get H rfl rfl rfl (by repeat (first | exact At.head | apply At.tail)) Tryz.underlying3 rfl (by simp only [List.getElem?_toArray, List.getElem?_cons_succ, List.getElem?_cons_zero]; rfl) ?_)
            | fail)
          go_ret
          exact ⟨(by rw [HO.out]; try rfl), H.below⟩
end Go.Proofs.YtbmfgcekglgliaaGreat.G

namespace Go.Proofs.YtbmfgcekglgliaaGreat.G
open Go.RowKit Go.Proofs.YtbmfgcekglgliaaGreatW.PrintWords Go.Proofs.YtbmfgcekglgliaaGreatW.PrintLast Go.Proofs.YtbmfgcekglgliaaGreatW.PrintMore Go.Proofs.YtbmfgcekglgliaaGreatPl Go.Proofs.YtbmfgcekglgliaaGreatEm Go.Proofs.YtbmfgcekglgliaaGreatKr
set_option linter.unusedVariables false
set_option linter.unusedSimpArgs false
theorem one_if (c : Int) : (if clip c < 1 then 1 else clip c) = one c := rfl
set_option maxHeartbeats 2000000 in
set_option maxRecDepth 100000 in
theorem Div_calls (a c : Int) (w : World) : Calls Tryz.prog 99 #[.int .i64 a, .int .i64 c] w fun e w' => e = .returned (.tuple #[.int .i64 (dv a c), .int .i64 (md a c)]) ∧ Below w.heap.size w w' := by
  have HO := one_if c
  have h1 := (one_bd c).1
  have h2 := (one_bd c).2
  have h3 := (clip_bd a).1
  have h4 := (clip_bd a).2
  have q1 := (tdiv_bd (a := clip a) (c := one c) h1 h3 h4).1
  have q2 := (tdiv_bd (a := clip a) (c := one c) h1 h3 h4).2
  have m1 := (tmod_bd (a := clip a) (c := one c) h1).1
  have m2 := (tmod_bd (a := clip a) (c := one c) h1).2
  have hz : (one c == 0) = false := beq_eq_false_iff_ne.2 (by omega)
  have hz2 : ¬ one c = 0 := by omega
  have hd1 : dv a c = clip a / one c := rfl
  have hd2 : md a c = clip a % one c := rfl
  have e1 : IntKind.i64.wrap ((clip a).tdiv (one c)) = (clip a).tdiv (one c) := by rw [IntKind.wrap_i64]; omega
  by_cases hm : (clip a).tmod (one c) < 0
  · have HD := Lib.hid (show dv a c = (clip a).tdiv (one c) - 1 ∧ md a c = (clip a).tmod (one c) + one c by
      have := (tdown (a := clip a) (c := one c) (by omega)).1 hm
      rw [hd1, hd2, this.1, this.2]; exact ⟨rfl, rfl⟩)
    have dm : decide ((clip a).tmod (one c) < 0) = true := decide_eq_true hm
    clear hd1 hd2 hm
    have H := Fr.start0 (M := fun _ => False) (A := fun _ => False) (w := w) (p := fun _ => True) (fun _ h => h.elim) (fun _ _ => trivial)
    go_enter Tryz.func99, Tryz.ntmps99
    go_wp2_with (first
      | (go_at_call 50; (with_reducible refine (Clip_calls _ _).mono ?_); rintro e w' ⟨rfl, rfl⟩)
      | fail)
    refine ko_region0 H (by kernel_rfl) (by as_aux_lemma => kernel_rfl) (fun HR => ?_)
    repeat (first
      | (refine ko_pure rfl (by rfl) (fun W K hK => by go_simp; exact hK.out) ?_; (try simp only [Act.put, lsA, lsZ, lsS, Nat.reduceAdd]))
      | (refine ko_off (by rfl) ?_; (try simp only [Act.put, lsA, lsZ, lsS, Nat.reduceAdd])))
    refine ko_end ?_
    intro w1 H1
    clear HR H
    have H := H1
    clear H1
    (try simp only [List.map_cons, List.map_nil, cv, List.cons_append, List.nil_append] at H)
    go_wp2
    go_ret2
    exact ⟨(by rw [HD.out.1, HD.out.2]; try rfl), H.below⟩
  · have HD := Lib.hid (show dv a c = (clip a).tdiv (one c) ∧ md a c = (clip a).tmod (one c) by
      have := (tdown (a := clip a) (c := one c) (by omega)).2 hm
      rw [hd1, hd2, this.1, this.2]; exact ⟨rfl, rfl⟩)
    have dm : decide ((clip a).tmod (one c) < 0) = false := decide_eq_false hm
    clear hd1 hd2 hm
    have H := Fr.start0 (M := fun _ => False) (A := fun _ => False) (w := w) (p := fun _ => True) (fun _ h => h.elim) (fun _ _ => trivial)
    go_enter Tryz.func99, Tryz.ntmps99
    go_wp2_with (first
      | (go_at_call 50; (with_reducible refine (Clip_calls _ _).mono ?_); rintro e w' ⟨rfl, rfl⟩)
      | fail)
    refine ko_region0 H (by kernel_rfl) (by as_aux_lemma => kernel_rfl) (fun HR => ?_)
    repeat (first
      | (refine ko_pure rfl (by rfl) (fun W K hK => by go_simp; exact hK.out) ?_; (try simp only [Act.put, lsA, lsZ, lsS, Nat.reduceAdd]))
      | (refine ko_off (by rfl) ?_; (try simp only [Act.put, lsA, lsZ, lsS, Nat.reduceAdd])))
    refine ko_end ?_
    intro w1 H1
    clear HR H
    have H := H1
    clear H1
    (try simp only [List.map_cons, List.map_nil, cv, List.cons_append, List.nil_append] at H)
    go_wp2
    go_ret2
    exact ⟨(by rw [HD.out.1, HD.out.2]; try rfl), H.below⟩
def numP (p : Par) (t : Int) : Int := dv t p.Pu
set_option maxHeartbeats 2000000 in
set_option maxRecDepth 100000 in
theorem Number_calls (p : Par) (t : Int) (w : World) : Calls Tryz.prog 83 #[.agg #[.int .i64 p.N, .int .i64 p.F, .int .i64 p.D, .int .i64 p.Be, .int .i64 p.Rho, .int .i64 p.De, .int .i64 p.Ji, .int .i64 p.Eps, .int .i64 p.Mu, .int .i64 p.Ho, .int .i64 p.Pu, .int .i64 p.Se], .int .i64 t] w fun e w' => e = .returned (.int .i64 (numP p t)) ∧ Below w.heap.size w w' := by
  have H := Fr.start0 (M := fun _ => False) (A := fun _ => False) (w := w) (p := fun _ => True) (fun _ h => h.elim) (fun _ _ => trivial)
  go_enter Tryz.func83, Tryz.ntmps83
  go_wp2_with (first
    | ((with_reducible refine gate_dst (N := 2) rfl ?_); refine fr_box H rfl rfl rfl ?_; intro g2 w2 H1; replace H := H1; clear H1)
    | ((with_reducible refine gate_dst (N := 10) rfl ?_); refine fr_get H rfl rfl rfl (by repeat (first | exact At.head | apply At.tail)) Tryz.underlying3 rfl (by simp only [List.getElem?_toArray, List.getElem?_cons_succ, List.getElem?_cons_zero]; rfl) ?_)
    | (go_at_call 99; (with_reducible refine (Div_calls _ _ _).mono ?_); rintro e w' ⟨rfl, hb⟩; have H1 := H.call hb; clear hb; replace H := H1; clear H1)
    | fail)
  go_ret
  exact ⟨rfl, H.below⟩
def inP (x lo hi : Int) : Bool := decide (lo ≤ x) && decide (x ≤ hi)
theorem in_bd {x lo hi : Int} (h : inP x lo hi = true) : lo ≤ x ∧ x ≤ hi := by unfold inP at h; simpa using h
end Go.Proofs.YtbmfgcekglgliaaGreat.G

namespace Go.Proofs.YtbmfgcekglgliaaGreat.G
open Go.RowKit Go.Proofs.YtbmfgcekglgliaaGreatW.PrintWords Go.Proofs.YtbmfgcekglgliaaGreatW.PrintLast Go.Proofs.YtbmfgcekglgliaaGreatW.PrintMore Go.Proofs.YtbmfgcekglgliaaGreatPl Go.Proofs.YtbmfgcekglgliaaGreatEm Go.Proofs.YtbmfgcekglgliaaGreatKr Go.Proofs.YtbmfgcekglgliaaGreat.X
set_option linter.unusedVariables false
set_option linter.unusedSimpArgs false
abbrev Lp := S58
theorem leap_at {w : World} {A : Option Addr} {xs : List Lp} (h : Kd.C k58 w A xs.length xs) (k : Nat) (hk : k < xs.length) :
    ∃ ad, A = some ad ∧ ∀ j u, [Value.int .i64 xs[k].f0, .int .i64 xs[k].f1][j]? = some u → w.cell? ((ad.add (k * 2)).add j) = some u := by
  obtain ⟨ad, c, e, _, hK, hc⟩ := Kd.C_get h z58 k (by omega) (by omega)
  have e2 := k58_open hK
  refine ⟨ad, e, fun j u hu => ?_⟩
  rw [add_add]
  have hg : rdOf z58 xs (k : Int) = xs[k] := by simp [rdOf, List.getD_eq_getElem?_getD, hk]
  have : w.cell? (ad.add ((k : Int).toNat * 2 + j)) = some u := hc j u (by
    rw [e2]
    show [Value.int .i64 (rdOf z58 xs (k : Int)).f0, Value.int .i64 (rdOf z58 xs (k : Int)).f1][j]? = some u
    rw [hg]; exact hu)
  simpa using this
theorem WIn_calls (lo hi x : Int) (g t : Nat) (w : World) (h : w.heap[g]? = some (.cells #[.int .i64 x] t (0, 0))) : Calls Tryz.prog 100 #[.int .i64 lo, .int .i64 hi, .slice (some ⟨g, 0, none⟩) 1 1] w fun e w' => e = .returned (.bool (inP x lo hi)) ∧ Below w.heap.size w w' := by
  have hc : w.cell? ⟨g, 0, none⟩ = some (.int .i64 x) := blk_cell h 0
  clear h
  obtain ⟨b, hb⟩ : ∃ b, decide (x < lo) = b := ⟨_, rfl⟩
  obtain ⟨c, hc2⟩ : ∃ c, decide (hi < x) = c := ⟨_, rfl⟩
  have HI := Lib.hid (show inP x lo hi = (!b && !c) by
    unfold inP; rw [← hb, ← hc2, Bool.eq_iff_iff]; simp [Int.not_lt])
  by_cases hbc : (!b && !c) = true
  · have hb1 : b = false := by cases b <;> simp_all
    have hc1 : c = false := by cases c <;> simp_all
    subst hb1 hc1
    clear hbc
    go_enter Tryz.func100, Tryz.ntmps100
    go_wp2
    go_loop [11] (fun v => ∃ k : Nat, k ≤ 1 ∧ v = .int .i64 k) (fun v => 1 - (intOf v).toNat)
    case atStart => exact ⟨0, by omega, rfl⟩
    case round =>
      obtain ⟨k, hk, rfl⟩ := hrel
      by_cases h0 : k = 0
      · subst h0
        go_wp2
        go_round
        case rel => exact ⟨1, by omega, rfl⟩
        case measure => simp [intOf]
      · obtain rfl : k = 1 := by omega
        clear h0
        go_wp2
        go_ret
        exact ⟨(by rw [HI.out]; try rfl), Below.refl _ _⟩
  · have HF := Lib.hid (show inP x lo hi = false by rw [HI.out]; simpa using hbc)
    have hor : b = true ∨ (b = false ∧ c = true) := by cases b <;> cases c <;> simp_all
    clear hbc HI
    rcases hor with rfl | ⟨rfl, rfl⟩
    all_goals
      go_enter Tryz.func100, Tryz.ntmps100
      go_wp2
      go_loop [11] (fun v => v = .int .i64 0) (fun v => 1 - (intOf v).toNat)
      case atStart => rfl
      case round =>
        subst hrel
        go_wp2
        go_ret
        exact ⟨(by rw [HF.out]; try rfl), Below.refl _ _⟩
def tbI : Nat → Int → Int → List Lp → Bool
  | _, _, _, [] => true
  | i, pv, off, x :: l => decide (i < 32) && inP x.f0 0 1099511627776 && inP x.f1 (-32) 32 && (decide (i = 0) || decide (86400 ≤ x.f0 - pv)) && (decide (x.f1 - off = 1) || decide (x.f1 - off = -1)) && tbI (i + 1) x.f0 x.f1 l
def tb (l : List Lp) : Bool := tbI 0 0 0 l
end Go.Proofs.YtbmfgcekglgliaaGreat.G
