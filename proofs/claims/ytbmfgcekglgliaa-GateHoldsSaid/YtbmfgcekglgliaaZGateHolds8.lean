/- Texts Gv, Gm, in one file, without what is not needed here. -/
import Derived.Test.YtbmfgcekglgliaaZGateHolds7
namespace Go.Proofs.Ytbmfgcekglgliaa.G
open Go.RowKit Go.Proofs.YtbmfgcekglgliaaW.PrintWords Go.Proofs.YtbmfgcekglgliaaW.PrintLast Go.Proofs.YtbmfgcekglgliaaW.PrintMore Go.Proofs.YtbmfgcekglgliaaPl Go.Proofs.YtbmfgcekglgliaaEm Go.Proofs.YtbmfgcekglgliaaKr Go.Proofs.YtbmfgcekglgliaaRz Go.Proofs.Ytbmfgcekglgliaa.X
set_option linter.unusedVariables false
set_option linter.unusedSimpArgs false
abbrev Sp := S25
theorem AFuse_calls (p : Par) (A : Option Addr) (c : Nat) (l : List Sp) (w : World) (hr : Kd.C k25 w A l.length l) (hc : l.length ≤ c) (hl : l.length ≤ 4096) : Calls Try.prog 23 #[.agg #[.int .i64 p.N, .int .i64 p.F, .int .i64 p.D, .int .i64 p.Be, .int .i64 p.Rho, .int .i64 p.De, .int .i64 p.Ji, .int .i64 p.Eps, .int .i64 p.Mu, .int .i64 p.Ho, .int .i64 p.Pu, .int .i64 p.Se], .slice A l.length c] w fun e w' => e = .returned (.tuple #[.agg #[.int .i64 (fuse p.F l).1, .int .i64 (fuse p.F l).2.1], .bool (fuse p.F l).2.2]) ∧ Below w.heap.size w w' := by
  have H := Fr.start0 (M := fun _ => False) (A := fun _ => False) (w := w) (p := fun W => Kd.C k25 W A l.length l) (fun _ h => h.elim) (Go.Proofs.YtbmfgcekglgliaaEv.Tr.of_C hr k25_heap)
  have HF := Lib.hid (fun W h => trim_Fuse.calls (l.length + 3) p.F A c l (fuse p.F l).1 (fuse p.F l).2.1 (fuse p.F l).2.2 W h hc (Fuse_f p.F l hl _ (Nat.le_refl _)))
  obtain ⟨r, hr2⟩ : ∃ r, fuse p.F l = r := ⟨_, rfl⟩
  rw [hr2] at HF ⊢
  obtain ⟨r1, r2, r3⟩ := r
  dsimp only at HF ⊢
  obtain ⟨n, hn⟩ : ∃ n, l.length = n := ⟨_, rfl⟩
  rw [hn] at HF H ⊢
  clear hr hc hl hn hr2
  go_enter Try.func23, Try.ntmps23
  go_wp2_with (first
    | (go_at_call 44; (with_reducible refine (HF.out _ H.now).mono ?_); rintro e w' ⟨rfl, hb⟩; have H1 := H.call hb; clear hb; clear H; have H := H1; clear H1)
    | ((with_reducible refine gate_dst (N := 2) rfl ?_); refine fr_box H rfl rfl rfl ?_; intro g2 w2 H1; clear H; have H := H1; clear H1)
    | ((with_reducible refine gate_dst (N := 4) rfl ?_); refine fr_new H (N := 4) rfl rfl (cs := #[.int .i64 0, .int .i64 0]) (t := 25) ?hr ?_; (case hr => first | (go_simp; done) | (go_simp; rfl)); intro g4 w4 H1; clear H; have H := H1; clear H1)
    | ((with_reducible refine gate_dst (N := 7) rfl ?_); refine fr_get H rfl rfl rfl (by repeat (first | exact At.head | apply At.tail)) Try.underlying3 rfl (by simp only [List.getElem?_toArray, List.getElem?_cons_succ, List.getElem?_cons_zero]; rfl) ?_)
    | ((with_reducible refine gate_store (t := 25) (p := 4) rfl ?_); refine fr_put H rfl rfl rfl rfl rfl (by repeat (first | exact At.head | apply At.tail)) (by rfl) (by kernel_rfl) (by simp [Value.oneCell']) ?_; intro w4_ H1; clear H; have H := H1; clear H1)
    | fail)
  refine bodyPost_ret (results_ct rfl _ _ g4 25 _ (0, 0) _ rfl (H.of (by repeat (first | exact At.head | apply At.tail))) Try.underlying25 rfl (by kernel_rfl)) rfl ?_
  exact ⟨rfl, H.below⟩
end Go.Proofs.Ytbmfgcekglgliaa.G

namespace Go.Proofs.Ytbmfgcekglgliaa.G
open Go.RowKit Go.Proofs.YtbmfgcekglgliaaW.PrintWords Go.Proofs.YtbmfgcekglgliaaW.PrintLast Go.Proofs.YtbmfgcekglgliaaW.PrintMore Go.Proofs.YtbmfgcekglgliaaPl Go.Proofs.YtbmfgcekglgliaaEm Go.Proofs.YtbmfgcekglgliaaKr Go.Proofs.YtbmfgcekglgliaaRz Go.Proofs.Ytbmfgcekglgliaa.X
set_option linter.unusedVariables false
set_option linter.unusedSimpArgs false
theorem Fr.below1 {A : Nat → Prop} {w W : World} {bl : List (Nat × Obj)} {p : World → Prop} {g : Nat} {o : Obj} (H : Fr (fun k => k = g) A w W bl p) (hg : w.heap[g]? = some o) (hb : W.heap[g]? = some o) : Below w.heap.size w W :=
  ⟨H.chg.os, H.chg.tape, H.chg.output, H.chg.size, fun k hk => by
    by_cases e : k = g
    · subst e; rw [hg, hb]
    · exact H.chg.block k hk e⟩
theorem Tr_true {D : Nat → Prop} {w : World} : Tr D w (fun _ => True) := fun _ _ => trivial
theorem Health_calls (p : Par) (s : St) (A : Option Addr) (c g : Nat) (me : Int) (w : World) (hg : w.heap[g]? = some (.cells #[.int .i64 p.N, .int .i64 p.F, .int .i64 p.D, .int .i64 p.Be, .int .i64 p.Rho, .int .i64 p.De, .int .i64 p.Ji, .int .i64 p.Eps, .int .i64 p.Mu, .int .i64 p.Ho, .int .i64 p.Pu, .int .i64 p.Se, .int .i64 s.lo, .int .i64 s.hi, .int .i64 s.time, .bool s.set, .int .i64 s.held, .int .i64 s.hops, .bool s.good, .slice A s.tab.length c, .int .i64 s.st, .int .i64 s.sn, .int .i64 s.life, .int .i64 me] 52 (0, 0))) : Calls Try.prog 12 #[.pointer (some ⟨g, 0, none⟩)] w fun e w' => e = .returned (.int .i64 (ofP p s.set s.good s.held s.hops)) ∧ Below w.heap.size w w' := by
  have H := Fr.start1 (M := fun k => k = g) (A := fun _ => False) (p := fun _ => True) (fun _ h => h.elim) hg rfl Tr_true
  have HG := Lib.hid hg
  clear hg
  obtain ⟨lo, hi, time, set, held, hops, good, tab, st, sn, life⟩ := s
  dsimp only at H HG ⊢
  obtain ⟨n, hn⟩ : ∃ n, tab.length = n := ⟨_, rfl⟩
  rw [hn] at H HG
  clear hn
  go_enter Try.func12, Try.ntmps12
  go_wp2
  refine ko_region0 H (by kernel_rfl) (by kernel_rfl) (fun HR => ?_)
  repeat (first
    | ((with_reducible refine kg_call (f := 13) rfl ?_); refine ko_call 13 _ rfl (by rfl) Try.func13 (by kernel_rfl) rfl (by kernel_rfl) (by simp only [List.map_toArray, List.map_cons, List.map_nil]; rfl) (fun W hC hd => Of_calls p _ _ _ _ _ _ _ _ _ _ _ _ _ W) ?_; (try simp only [Act.put, List.setIfInBounds_toArray, List.set_cons_zero, List.set_cons_succ, Nat.reduceAdd]))
    | ((with_reducible refine kg_load (ty := 23) rfl ?_); refine ko_sub HR (n := 12) rfl (by rfl) (by rfl) (by repeat (first | exact At.head | apply At.tail)) Try.underlying23 rfl (by kernel_rfl) (by simp only [List.toList_toArray, List.drop_succ_cons, List.drop_zero, List.take_succ_cons, List.take_zero]; rfl) (by rfl) ?_; (try simp only [Act.put, List.setIfInBounds_toArray, List.set_cons_zero, List.set_cons_succ, Nat.reduceAdd]))
    | ((with_reducible refine kg_load (ty := 30) rfl ?_); refine ko_sub HR (n := 11) rfl (by rfl) (by rfl) (by repeat (first | exact At.head | apply At.tail)) Try.underlying30 rfl (by kernel_rfl) (by simp only [List.toList_toArray, List.drop_succ_cons, List.drop_zero, List.take_succ_cons, List.take_zero]; rfl) (by rfl) ?_; (try simp only [Act.put, List.setIfInBounds_toArray, List.set_cons_zero, List.set_cons_succ, Nat.reduceAdd]))
    | (refine ko_pure rfl (by rfl) (fun W K hK => by go_simp; exact hK.out) ?_; (try simp only [Act.put, List.setIfInBounds_toArray, List.set_cons_zero, List.set_cons_succ, Nat.reduceAdd]))
    | (refine ko_off (by rfl) ?_; (try simp only [Act.put, List.setIfInBounds_toArray, List.set_cons_zero, List.set_cons_succ, Nat.reduceAdd])))
  refine ko_end ?_
  intro w1 H1
  clear HR H
  have H := H1
  clear H1
  (try simp only [List.map_cons, List.map_nil, cv, List.cons_append, List.nil_append] at H)
  go_wp2
  go_ret
  exact ⟨rfl, Fr.below1 H HG.out (H.of (by repeat (first | exact At.head | apply At.tail)))⟩
def syncE (o : Int) : Int := if (o == 0) = true then 20 else 0
theorem synced_calls (p : Par) (s : St) (A : Option Addr) (c g : Nat) (me : Int) (w : World) (hg : w.heap[g]? = some (.cells #[.int .i64 p.N, .int .i64 p.F, .int .i64 p.D, .int .i64 p.Be, .int .i64 p.Rho, .int .i64 p.De, .int .i64 p.Ji, .int .i64 p.Eps, .int .i64 p.Mu, .int .i64 p.Ho, .int .i64 p.Pu, .int .i64 p.Se, .int .i64 s.lo, .int .i64 s.hi, .int .i64 s.time, .bool s.set, .int .i64 s.held, .int .i64 s.hops, .bool s.good, .slice A s.tab.length c, .int .i64 s.st, .int .i64 s.sn, .int .i64 s.life, .int .i64 me] 52 (0, 0))) : Calls Try.prog 36 #[.pointer (some ⟨g, 0, none⟩)] w fun e w' => e = .returned (.int .i64 (syncE (ofP p s.set s.good s.held s.hops))) ∧ Below w.heap.size w w' := by
  obtain ⟨o, ho⟩ : ∃ o, ofP p s.set s.good s.held s.hops = o := ⟨_, rfl⟩
  have HH := Lib.hid (fun h => ho ▸ Health_calls p s A c g me w h)
  rw [ho]
  have HG := Lib.hid hg
  clear ho hg
  cases hb : (o == 0) with
  | true =>
    have HS := Lib.hid (show syncE o = 20 by unfold syncE; rw [hb]; rfl)
    go_enter Try.func36, Try.ntmps36
    go_wp2_with (first
      | (go_at_call 12; (with_reducible refine (HH.out HG.out).mono ?_); rintro e w' ⟨rfl, hb⟩; have HB := Lib.hid hb; clear hb)
      | fail)
    go_ret
    exact ⟨(by rw [HS.out]; try rfl), HB.out⟩
  | false =>
    have HS := Lib.hid (show syncE o = 0 by unfold syncE; rw [hb]; rfl)
    go_enter Try.func36, Try.ntmps36
    go_wp2_with (first
      | (go_at_call 12; (with_reducible refine (HH.out HG.out).mono ?_); rintro e w' ⟨rfl, hb⟩; have HB := Lib.hid hb; clear hb)
      | fail)
    go_ret
    exact ⟨(by rw [HS.out]; try rfl), HB.out⟩
theorem Now_calls (p : Par) (s : St) (A : Option Addr) (c g : Nat) (me : Int) (w : World) (hg : w.heap[g]? = some (.cells #[.int .i64 p.N, .int .i64 p.F, .int .i64 p.D, .int .i64 p.Be, .int .i64 p.Rho, .int .i64 p.De, .int .i64 p.Ji, .int .i64 p.Eps, .int .i64 p.Mu, .int .i64 p.Ho, .int .i64 p.Pu, .int .i64 p.Se, .int .i64 s.lo, .int .i64 s.hi, .int .i64 s.time, .bool s.set, .int .i64 s.held, .int .i64 s.hops, .bool s.good, .slice A s.tab.length c, .int .i64 s.st, .int .i64 s.sn, .int .i64 s.life, .int .i64 me] 52 (0, 0))) : Calls Try.prog 16 #[.pointer (some ⟨g, 0, none⟩)] w fun e w' => e = .returned (.tuple #[.int .i64 (if syncE (ofP p s.set s.good s.held s.hops) = 0 then s.time else 0), .int .i64 (syncE (ofP p s.set s.good s.held s.hops))]) ∧ Below w.heap.size w w' := by
  have HY : Hid (∀ W, W.heap[g]? = some (.cells #[.int .i64 p.N, .int .i64 p.F, .int .i64 p.D, .int .i64 p.Be, .int .i64 p.Rho, .int .i64 p.De, .int .i64 p.Ji, .int .i64 p.Eps, .int .i64 p.Mu, .int .i64 p.Ho, .int .i64 p.Pu, .int .i64 p.Se, .int .i64 s.lo, .int .i64 s.hi, .int .i64 s.time, .bool s.set, .int .i64 s.held, .int .i64 s.hops, .bool s.good, .slice A s.tab.length c, .int .i64 s.st, .int .i64 s.sn, .int .i64 s.life, .int .i64 me] 52 (0, 0)) → Calls Try.prog 36 #[.pointer (some ⟨g, 0, none⟩)] W fun e w' => e = .returned (.int .i64 (syncE (ofP p s.set s.good s.held s.hops))) ∧ Below W.heap.size W w') := Lib.hid (fun W h => synced_calls p s A c g me W h)
  have H := Fr.start1 (M := fun k => k = g) (A := fun _ => False) (p := fun _ => True) (fun _ h => h.elim) hg rfl Tr_true
  have HG := Lib.hid hg
  clear hg
  obtain ⟨lo, hi, time, set, held, hops, good, tab, st, sn, life⟩ := s
  dsimp only at H HG HY ⊢
  obtain ⟨n, hn⟩ : ∃ n, tab.length = n := ⟨_, rfl⟩
  obtain ⟨y, hy⟩ : ∃ y, syncE (ofP p set good held hops) = y := ⟨_, rfl⟩
  rw [hn] at H HG
  rw [hn, hy] at HY
  have HYE : y = 0 ∨ y = 20 := by rw [← hy]; unfold syncE; split; exact .inr rfl; exact .inl rfl
  rw [hy]
  clear hn hy
  rcases HYE with rfl | rfl
  all_goals
    go_enter Try.func16, Try.ntmps16
    go_wp2_with (first
      | (go_at_call 36; (with_reducible refine (HY.out _ (H.of At.head)).mono ?_); rintro e w' ⟨rfl, hb⟩; have H1 := H.call hb; clear hb; clear H; have H := H1; clear H1)
      | ((with_reducible refine gate_dst (N := 14) rfl ?_); refine fr_get H rfl rfl rfl (by repeat (first | exact At.head | apply At.tail)) Try.underlying3 rfl (by simp only [List.getElem?_toArray, List.getElem?_cons_succ, List.getElem?_cons_zero]; rfl) ?_)
      | fail)
    go_ret2
    exact ⟨rfl, Fr.below1 H HG.out (H.of (by repeat (first | exact At.head | apply At.tail)))⟩
theorem Pulse_calls (p : Par) (s : St) (A : Option Addr) (c g : Nat) (me : Int) (w : World) (hg : w.heap[g]? = some (.cells #[.int .i64 p.N, .int .i64 p.F, .int .i64 p.D, .int .i64 p.Be, .int .i64 p.Rho, .int .i64 p.De, .int .i64 p.Ji, .int .i64 p.Eps, .int .i64 p.Mu, .int .i64 p.Ho, .int .i64 p.Pu, .int .i64 p.Se, .int .i64 s.lo, .int .i64 s.hi, .int .i64 s.time, .bool s.set, .int .i64 s.held, .int .i64 s.hops, .bool s.good, .slice A s.tab.length c, .int .i64 s.st, .int .i64 s.sn, .int .i64 s.life, .int .i64 me] 52 (0, 0))) : Calls Try.prog 52 #[.pointer (some ⟨g, 0, none⟩)] w fun e w' => e = .returned (.tuple #[.int .i64 (if syncE (ofP p s.set s.good s.held s.hops) = 0 then numP p s.time else 0), .int .i64 (syncE (ofP p s.set s.good s.held s.hops))]) ∧ Below w.heap.size w w' := by
  have HY : Hid (∀ W, W.heap[g]? = some (.cells #[.int .i64 p.N, .int .i64 p.F, .int .i64 p.D, .int .i64 p.Be, .int .i64 p.Rho, .int .i64 p.De, .int .i64 p.Ji, .int .i64 p.Eps, .int .i64 p.Mu, .int .i64 p.Ho, .int .i64 p.Pu, .int .i64 p.Se, .int .i64 s.lo, .int .i64 s.hi, .int .i64 s.time, .bool s.set, .int .i64 s.held, .int .i64 s.hops, .bool s.good, .slice A s.tab.length c, .int .i64 s.st, .int .i64 s.sn, .int .i64 s.life, .int .i64 me] 52 (0, 0)) → Calls Try.prog 36 #[.pointer (some ⟨g, 0, none⟩)] W fun e w' => e = .returned (.int .i64 (syncE (ofP p s.set s.good s.held s.hops))) ∧ Below W.heap.size W w') := Lib.hid (fun W h => synced_calls p s A c g me W h)
  have H := Fr.start1 (M := fun k => k = g) (A := fun _ => False) (p := fun _ => True) (fun _ h => h.elim) hg rfl Tr_true
  have HG := Lib.hid hg
  clear hg
  obtain ⟨lo, hi, time, set, held, hops, good, tab, st, sn, life⟩ := s
  dsimp only at H HG HY ⊢
  obtain ⟨n, hn⟩ : ∃ n, tab.length = n := ⟨_, rfl⟩
  obtain ⟨y, hy⟩ : ∃ y, syncE (ofP p set good held hops) = y := ⟨_, rfl⟩
  rw [hn] at H HG
  rw [hn, hy] at HY
  have HYE : y = 0 ∨ y = 20 := by rw [← hy]; unfold syncE; split; exact .inr rfl; exact .inl rfl
  rw [hy]
  clear hn hy
  rcases HYE with rfl | rfl
  · go_enter Try.func52, Try.ntmps52
    go_wp2_with (first
      | (go_at_call 36; (with_reducible refine (HY.out _ (H.of At.head)).mono ?_); rintro e w' ⟨rfl, hb⟩; have H1 := H.call hb; clear hb; clear H; have H := H1; clear H1)
      | ((with_reducible refine gate_dst (N := 13) rfl ?_); refine fr_sub H (n := 12) rfl rfl rfl (by repeat (first | exact At.head | apply At.tail)) Try.underlying23 rfl (by kernel_rfl) (by simp only [List.toList_toArray, List.drop_succ_cons, List.drop_zero, List.take_succ_cons, List.take_zero]; rfl) (by rfl) ?_)
      | ((with_reducible refine gate_dst (N := 18) rfl ?_); refine fr_get H rfl rfl rfl (by repeat (first | exact At.head | apply At.tail)) Try.underlying3 rfl (by simp only [List.getElem?_toArray, List.getElem?_cons_succ, List.getElem?_cons_zero]; rfl) ?_)
      | fail)
    refine ko_region0 H (by kernel_rfl) (by kernel_rfl) (fun HR => ?_)
    repeat (first
      | ((with_reducible refine kg_call (f := 64) rfl ?_); refine ko_call 64 _ rfl (by rfl) Try.func64 (by kernel_rfl) rfl (by kernel_rfl) (by simp only [List.map_toArray, List.map_cons, List.map_nil]; rfl) (fun W hC hd => Number_calls p _ W) ?_; (try simp only [Act.put, List.setIfInBounds_toArray, List.set_cons_zero, List.set_cons_succ, Nat.reduceAdd]))
      | ((with_reducible refine kg_load (ty := 23) rfl ?_); refine ko_sub HR (n := 12) rfl (by rfl) (by rfl) (by repeat (first | exact At.head | apply At.tail)) Try.underlying23 rfl (by kernel_rfl) (by simp only [List.toList_toArray, List.drop_succ_cons, List.drop_zero, List.take_succ_cons, List.take_zero]; rfl) (by rfl) ?_; (try simp only [Act.put, List.setIfInBounds_toArray, List.set_cons_zero, List.set_cons_succ, Nat.reduceAdd]))
      | ((with_reducible refine kg_load (ty := 3) rfl ?_); refine ko_get HR rfl (by rfl) (by rfl) (by repeat (first | exact At.head | apply At.tail)) Try.underlying3 rfl (by simp only [List.getElem?_toArray, List.getElem?_cons_succ, List.getElem?_cons_zero]; rfl) ?_; (try simp only [Act.put, List.setIfInBounds_toArray, List.set_cons_zero, List.set_cons_succ, Nat.reduceAdd]))
      | (refine ko_pure rfl (by rfl) (fun W K hK => by go_simp; exact hK.out) ?_; (try simp only [Act.put, List.setIfInBounds_toArray, List.set_cons_zero, List.set_cons_succ, Nat.reduceAdd]))
      | (refine ko_off (by rfl) ?_; (try simp only [Act.put, List.setIfInBounds_toArray, List.set_cons_zero, List.set_cons_succ, Nat.reduceAdd])))
    refine ko_end ?_
    intro w1 H1
    clear HR H
    have H := H1
    clear H1
    (try simp only [List.map_cons, List.map_nil, cv, List.cons_append, List.nil_append] at H)
    go_wp2
    go_ret2
    exact ⟨rfl, Fr.below1 H HG.out (H.of (by repeat (first | exact At.head | apply At.tail)))⟩
  · go_enter Try.func52, Try.ntmps52
    go_wp2_with (first
      | (go_at_call 36; (with_reducible refine (HY.out _ (H.of At.head)).mono ?_); rintro e w' ⟨rfl, hb⟩; have H1 := H.call hb; clear hb; clear H; have H := H1; clear H1)
      | ((with_reducible refine gate_dst (N := 13) rfl ?_); refine fr_sub H (n := 12) rfl rfl rfl (by repeat (first | exact At.head | apply At.tail)) Try.underlying23 rfl (by kernel_rfl) (by simp only [List.toList_toArray, List.drop_succ_cons, List.drop_zero, List.take_succ_cons, List.take_zero]; rfl) (by rfl) ?_)
      | ((with_reducible refine gate_dst (N := 18) rfl ?_); refine fr_get H rfl rfl rfl (by repeat (first | exact At.head | apply At.tail)) Try.underlying3 rfl (by simp only [List.getElem?_toArray, List.getElem?_cons_succ, List.getElem?_cons_zero]; rfl) ?_)
      | fail)
    go_ret2
    exact ⟨rfl, Fr.below1 H HG.out (H.of (by repeat (first | exact At.head | apply At.tail)))⟩
def mostS (p : Par) (s : St) : Int := sadd [s.hi, farP p s.held]
theorem most_calls (p : Par) (s : St) (A : Option Addr) (c g : Nat) (me : Int) (w : World) (hg : w.heap[g]? = some (.cells #[.int .i64 p.N, .int .i64 p.F, .int .i64 p.D, .int .i64 p.Be, .int .i64 p.Rho, .int .i64 p.De, .int .i64 p.Ji, .int .i64 p.Eps, .int .i64 p.Mu, .int .i64 p.Ho, .int .i64 p.Pu, .int .i64 p.Se, .int .i64 s.lo, .int .i64 s.hi, .int .i64 s.time, .bool s.set, .int .i64 s.held, .int .i64 s.hops, .bool s.good, .slice A s.tab.length c, .int .i64 s.st, .int .i64 s.sn, .int .i64 s.life, .int .i64 me] 52 (0, 0))) : Calls Try.prog 50 #[.pointer (some ⟨g, 0, none⟩)] w fun e w' => e = .returned (.int .i64 (mostS p s)) ∧ Below w.heap.size w w' := by
  unfold mostS
  have H := Fr.start1 (M := fun k => k = g) (A := fun _ => False) (p := fun _ => True) (fun _ h => h.elim) hg rfl Tr_true
  have HG := Lib.hid hg
  clear hg
  obtain ⟨lo, hi, time, set, held, hops, good, tab, st, sn, life⟩ := s
  dsimp only at H HG ⊢
  obtain ⟨n, hn⟩ : ∃ n, tab.length = n := ⟨_, rfl⟩
  rw [hn] at H HG
  clear hn
  go_enter Try.func50, Try.ntmps50
  go_wp2
  refine ko_region0 H (by kernel_rfl) (by kernel_rfl) (fun HR => ?_)
  repeat (first
    | ((with_reducible refine kg_call (f := 47) rfl ?_); refine ko_call 47 _ rfl (by rfl) Try.func47 (by kernel_rfl) rfl (by kernel_rfl) (by simp only [List.map_toArray, List.map_cons, List.map_nil]; rfl) (fun W hC hd => Far_calls p _ W) ?_; (try simp only [Act.put, List.setIfInBounds_toArray, List.set_cons_zero, List.set_cons_succ, Nat.reduceAdd]))
    | ((with_reducible refine kg_call (f := 26) rfl ?_); refine ko_call 26 _ rfl (by rfl) Try.func26 (by kernel_rfl) rfl (by kernel_rfl) (by simp only [List.map_toArray, List.map_cons, List.map_nil]; rfl) (fun W hC hd => Add2 (depH.hd hd (by kernel_rfl))) ?_; (try simp only [Act.put, List.setIfInBounds_toArray, List.set_cons_zero, List.set_cons_succ, Nat.reduceAdd]))
    | ((with_reducible refine kg_load (ty := 3) rfl ?_); refine ko_get HR rfl (by rfl) (by rfl) (by repeat (first | exact At.head | apply At.tail)) Try.underlying3 rfl (by simp only [List.getElem?_toArray, List.getElem?_cons_succ, List.getElem?_cons_zero]; rfl) ?_; (try simp only [Act.put, List.setIfInBounds_toArray, List.set_cons_zero, List.set_cons_succ, Nat.reduceAdd]))
    | ((with_reducible refine kg_load (ty := 23) rfl ?_); refine ko_sub HR (n := 12) rfl (by rfl) (by rfl) (by repeat (first | exact At.head | apply At.tail)) Try.underlying23 rfl (by kernel_rfl) (by simp only [List.toList_toArray, List.drop_succ_cons, List.drop_zero, List.take_succ_cons, List.take_zero]; rfl) (by rfl) ?_; (try simp only [Act.put, List.setIfInBounds_toArray, List.set_cons_zero, List.set_cons_succ, Nat.reduceAdd]))
    | ((with_reducible refine kg_dst (N := 19) rfl ?_); refine ko_row rfl (by rfl) (fun W K hK => by go_simp; exact hK.out) ?_; intro x19; (try simp only [Act.put, List.setIfInBounds_toArray, List.set_cons_zero, List.set_cons_succ, Nat.reduceAdd]))
    | (refine ko_pure rfl (by rfl) (fun W K hK => by go_simp; exact hK.out) ?_; (try simp only [Act.put, List.setIfInBounds_toArray, List.set_cons_zero, List.set_cons_succ, Nat.reduceAdd]))
    | (refine ko_off (by rfl) ?_; (try simp only [Act.put, List.setIfInBounds_toArray, List.set_cons_zero, List.set_cons_succ, Nat.reduceAdd])))
  refine ko_end ?_
  intro w1 H1
  clear HR H
  have H := H1
  clear H1
  (try simp only [List.map_cons, List.map_nil, cv, List.cons_append, List.nil_append] at H)
  go_wp2
  go_ret
  exact ⟨rfl, Fr.below1 H HG.out (H.of (by repeat (first | exact At.head | apply At.tail)))⟩
end Go.Proofs.Ytbmfgcekglgliaa.G
