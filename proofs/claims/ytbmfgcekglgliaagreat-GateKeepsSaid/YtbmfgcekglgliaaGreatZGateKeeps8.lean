/- Texts Gm, Gn, in one file, without what is not needed here. -/
import Derived.Test.YtbmfgcekglgliaaGreatZGateKeeps7
namespace Go.Proofs.YtbmfgcekglgliaaGreat.G
open Go.RowKit Go.Proofs.YtbmfgcekglgliaaGreatW.PrintWords Go.Proofs.YtbmfgcekglgliaaGreatW.PrintLast Go.Proofs.YtbmfgcekglgliaaGreatW.PrintMore Go.Proofs.YtbmfgcekglgliaaGreatPl Go.Proofs.YtbmfgcekglgliaaGreatEm Go.Proofs.YtbmfgcekglgliaaGreatKr Go.Proofs.YtbmfgcekglgliaaGreatRz Go.Proofs.YtbmfgcekglgliaaGreat.X
set_option linter.unusedVariables false
set_option linter.unusedSimpArgs false
theorem Fr.below1 {A : Nat → Prop} {w W : World} {bl : List (Nat × Obj)} {p : World → Prop} {g : Nat} {o : Obj} (H : Fr (fun k => k = g) A w W bl p) (hg : w.heap[g]? = some o) (hb : W.heap[g]? = some o) : Below w.heap.size w W :=
  ⟨H.chg.os, H.chg.tape, H.chg.output, H.chg.size, fun k hk => by
    by_cases e : k = g
    · subst e; rw [hg, hb]
    · exact H.chg.block k hk e⟩
theorem Tr_true {D : Nat → Prop} {w : World} : Tr D w (fun _ => True) := fun _ _ => trivial
theorem Health_calls (p : Par) (s : St) (A : Option Addr) (c g : Nat) (me : Int) (w : World) (hg : w.heap[g]? = some (.cells #[.int .i64 p.N, .int .i64 p.F, .int .i64 p.D, .int .i64 p.Be, .int .i64 p.Rho, .int .i64 p.De, .int .i64 p.Ji, .int .i64 p.Eps, .int .i64 p.Mu, .int .i64 p.Ho, .int .i64 p.Pu, .int .i64 p.Se, .int .i64 s.lo, .int .i64 s.hi, .int .i64 s.time, .bool s.set, .int .i64 s.held, .int .i64 s.hops, .bool s.good, .slice A s.tab.length c, .int .i64 s.st, .int .i64 s.sn, .int .i64 s.life, .int .i64 me] 41 (0, 0))) : Calls Tryz.prog 84 #[.pointer (some ⟨g, 0, none⟩)] w fun e w' => e = .returned (.int .i64 (ofP p s.set s.good s.held s.hops)) ∧ Below w.heap.size w w' := by
  have H := Fr.start1 (M := fun k => k = g) (A := fun _ => False) (p := fun _ => True) (fun _ h => h.elim) hg rfl Tr_true
  have HG := Lib.hid hg
  clear hg
  obtain ⟨lo, hi, time, set, held, hops, good, tab, st, sn, life⟩ := s
  dsimp only at H HG ⊢
  obtain ⟨n, hn⟩ : ∃ n, tab.length = n := ⟨_, rfl⟩
  rw [hn] at H HG
  clear hn
  go_enter Tryz.func84, Tryz.ntmps84
  go_wp2
  refine ko_region0 H (by kernel_rfl) (by as_aux_lemma => kernel_rfl) (fun HR => ?_)
  repeat (first
    | ((with_reducible refine kg_call (f := 64) rfl ?_); refine ko_call 64 _ rfl (by rfl) Tryz.func64 (by kernel_rfl) rfl (by kernel_rfl) (by simp only [List.map_toArray, List.map_cons, List.map_nil]; rfl) (fun W hC hd => Of_calls p _ _ _ _ _ _ _ _ _ _ _ _ _ W) ?_; (try simp only [Act.put, lsA, lsZ, lsS, Nat.reduceAdd]))
    | ((with_reducible refine kg_load (ty := 23) rfl ?_); refine ko_sub HR (n := 12) rfl (by rfl) (by rfl) (by repeat (first | exact At.head | apply At.tail)) Tryz.underlying23 rfl (by kernel_rfl) (by simp only [List.toList_toArray, List.drop_succ_cons, List.drop_zero, List.take_succ_cons, List.take_zero]; rfl) (by rfl) ?_; (try simp only [Act.put, lsA, lsZ, lsS, Nat.reduceAdd]))
    | ((with_reducible refine kg_load (ty := 30) rfl ?_); refine ko_sub HR (n := 11) rfl (by rfl) (by rfl) (by repeat (first | exact At.head | apply At.tail)) Tryz.underlying30 rfl (by kernel_rfl) (by simp only [List.toList_toArray, List.drop_succ_cons, List.drop_zero, List.take_succ_cons, List.take_zero]; rfl) (by rfl) ?_; (try simp only [Act.put, lsA, lsZ, lsS, Nat.reduceAdd]))
    | (refine ko_pure rfl (by rfl) (fun W K hK => by go_simp; exact hK.out) ?_; (try simp only [Act.put, lsA, lsZ, lsS, Nat.reduceAdd]))
    | (refine ko_off (by rfl) ?_; (try simp only [Act.put, lsA, lsZ, lsS, Nat.reduceAdd])))
  refine ko_end ?_
  intro w1 H1
  clear HR H
  have H := H1
  clear H1
  (try simp only [List.map_cons, List.map_nil, cv, List.cons_append, List.nil_append] at H)
  go_wp2
  go_ret
  exact ⟨rfl, Fr.below1 H HG.out (H.of (by repeat (first | exact At.head | apply At.tail)))⟩
def syncE (o : Int) : Int := if (o == 0) = true then 20 else 0
theorem synced_calls (p : Par) (s : St) (A : Option Addr) (c g : Nat) (me : Int) (w : World) (hg : w.heap[g]? = some (.cells #[.int .i64 p.N, .int .i64 p.F, .int .i64 p.D, .int .i64 p.Be, .int .i64 p.Rho, .int .i64 p.De, .int .i64 p.Ji, .int .i64 p.Eps, .int .i64 p.Mu, .int .i64 p.Ho, .int .i64 p.Pu, .int .i64 p.Se, .int .i64 s.lo, .int .i64 s.hi, .int .i64 s.time, .bool s.set, .int .i64 s.held, .int .i64 s.hops, .bool s.good, .slice A s.tab.length c, .int .i64 s.st, .int .i64 s.sn, .int .i64 s.life, .int .i64 me] 41 (0, 0))) : Calls Tryz.prog 46 #[.pointer (some ⟨g, 0, none⟩)] w fun e w' => e = .returned (.int .i64 (syncE (ofP p s.set s.good s.held s.hops))) ∧ Below w.heap.size w w' := by
  obtain ⟨o, ho⟩ : ∃ o, ofP p s.set s.good s.held s.hops = o := ⟨_, rfl⟩
  have HH := Lib.hid (fun h => ho ▸ Health_calls p s A c g me w h)
  rw [ho]
  have HG := Lib.hid hg
  clear ho hg
  cases hb : (o == 0) with
  | true =>
    have HS := Lib.hid (show syncE o = 20 by unfold syncE; rw [hb]; rfl)
    go_enter Tryz.func46, Tryz.ntmps46
    go_wp2_with (first
      | (go_at_call 84; (with_reducible refine (HH.out HG.out).mono ?_); rintro e w' ⟨rfl, hb⟩; have HB := Lib.hid hb; clear hb)
      | fail)
    go_ret
    exact ⟨(by rw [HS.out]; try rfl), HB.out⟩
  | false =>
    have HS := Lib.hid (show syncE o = 0 by unfold syncE; rw [hb]; rfl)
    go_enter Tryz.func46, Tryz.ntmps46
    go_wp2_with (first
      | (go_at_call 84; (with_reducible refine (HH.out HG.out).mono ?_); rintro e w' ⟨rfl, hb⟩; have HB := Lib.hid hb; clear hb)
      | fail)
    go_ret
    exact ⟨(by rw [HS.out]; try rfl), HB.out⟩
theorem Now_calls (p : Par) (s : St) (A : Option Addr) (c g : Nat) (me : Int) (w : World) (hg : w.heap[g]? = some (.cells #[.int .i64 p.N, .int .i64 p.F, .int .i64 p.D, .int .i64 p.Be, .int .i64 p.Rho, .int .i64 p.De, .int .i64 p.Ji, .int .i64 p.Eps, .int .i64 p.Mu, .int .i64 p.Ho, .int .i64 p.Pu, .int .i64 p.Se, .int .i64 s.lo, .int .i64 s.hi, .int .i64 s.time, .bool s.set, .int .i64 s.held, .int .i64 s.hops, .bool s.good, .slice A s.tab.length c, .int .i64 s.st, .int .i64 s.sn, .int .i64 s.life, .int .i64 me] 41 (0, 0))) : Calls Tryz.prog 18 #[.pointer (some ⟨g, 0, none⟩)] w fun e w' => e = .returned (.tuple #[.int .i64 (if syncE (ofP p s.set s.good s.held s.hops) = 0 then s.time else 0), .int .i64 (syncE (ofP p s.set s.good s.held s.hops))]) ∧ Below w.heap.size w w' := by
  have HY : Hid (∀ W, W.heap[g]? = some (.cells #[.int .i64 p.N, .int .i64 p.F, .int .i64 p.D, .int .i64 p.Be, .int .i64 p.Rho, .int .i64 p.De, .int .i64 p.Ji, .int .i64 p.Eps, .int .i64 p.Mu, .int .i64 p.Ho, .int .i64 p.Pu, .int .i64 p.Se, .int .i64 s.lo, .int .i64 s.hi, .int .i64 s.time, .bool s.set, .int .i64 s.held, .int .i64 s.hops, .bool s.good, .slice A s.tab.length c, .int .i64 s.st, .int .i64 s.sn, .int .i64 s.life, .int .i64 me] 41 (0, 0)) → Calls Tryz.prog 46 #[.pointer (some ⟨g, 0, none⟩)] W fun e w' => e = .returned (.int .i64 (syncE (ofP p s.set s.good s.held s.hops))) ∧ Below W.heap.size W w') := Lib.hid (fun W h => synced_calls p s A c g me W h)
  have H := Fr.start1 (M := fun k => k = g) (A := fun _ => False) (p := fun _ => True) (fun _ h => h.elim) hg rfl Tr_true
  have HG := Lib.hid hg
  clear hg
  obtain ⟨lo, hi, time, set, held, hops, good, tab, st, sn, life⟩ := s
  dsimp only at H HG HY ⊢
  obtain ⟨n, hn⟩ : ∃ n, tab.length = n := ⟨_, rfl⟩
  obtain ⟨y, hy⟩ : ∃ y, syncE (ofP p set good held hops) = y := ⟨_, rfl⟩
  rw [hn] at H HG
  rw [hn, hy] at HY
  have HYE : y = 0 ∨ y = 20 := by rw [← hy]; unfold syncE; split; exact .inr rfl; exact .inl rfl
  rw [hy]
  clear hn hy
  rcases HYE with rfl | rfl
  all_goals
    go_enter Tryz.func18, Tryz.ntmps18
    go_wp2_with (first
      | (go_at_call 46; (with_reducible refine (HY.out _ (H.of At.head)).mono ?_); rintro e w' ⟨rfl, hb⟩; have H1 := H.call hb; clear hb; replace H := H1; clear H1)
      | ((with_reducible refine gate_dst (N := 14) rfl ?_); refine fr_get H rfl rfl rfl (by repeat (first | exact At.head | apply At.tail)) Tryz.underlying3 rfl (by simp only [List.getElem?_toArray, List.getElem?_cons_succ, List.getElem?_cons_zero]; rfl) ?_)
      | fail)
    go_ret2
    exact ⟨rfl, Fr.below1 H HG.out (H.of (by repeat (first | exact At.head | apply At.tail)))⟩
theorem Pulse_calls (p : Par) (s : St) (A : Option Addr) (c g : Nat) (me : Int) (w : World) (hg : w.heap[g]? = some (.cells #[.int .i64 p.N, .int .i64 p.F, .int .i64 p.D, .int .i64 p.Be, .int .i64 p.Rho, .int .i64 p.De, .int .i64 p.Ji, .int .i64 p.Eps, .int .i64 p.Mu, .int .i64 p.Ho, .int .i64 p.Pu, .int .i64 p.Se, .int .i64 s.lo, .int .i64 s.hi, .int .i64 s.time, .bool s.set, .int .i64 s.held, .int .i64 s.hops, .bool s.good, .slice A s.tab.length c, .int .i64 s.st, .int .i64 s.sn, .int .i64 s.life, .int .i64 me] 41 (0, 0))) : Calls Tryz.prog 43 #[.pointer (some ⟨g, 0, none⟩)] w fun e w' => e = .returned (.tuple #[.int .i64 (if syncE (ofP p s.set s.good s.held s.hops) = 0 then numP p s.time else 0), .int .i64 (syncE (ofP p s.set s.good s.held s.hops))]) ∧ Below w.heap.size w w' := by
  have HY : Hid (∀ W, W.heap[g]? = some (.cells #[.int .i64 p.N, .int .i64 p.F, .int .i64 p.D, .int .i64 p.Be, .int .i64 p.Rho, .int .i64 p.De, .int .i64 p.Ji, .int .i64 p.Eps, .int .i64 p.Mu, .int .i64 p.Ho, .int .i64 p.Pu, .int .i64 p.Se, .int .i64 s.lo, .int .i64 s.hi, .int .i64 s.time, .bool s.set, .int .i64 s.held, .int .i64 s.hops, .bool s.good, .slice A s.tab.length c, .int .i64 s.st, .int .i64 s.sn, .int .i64 s.life, .int .i64 me] 41 (0, 0)) → Calls Tryz.prog 46 #[.pointer (some ⟨g, 0, none⟩)] W fun e w' => e = .returned (.int .i64 (syncE (ofP p s.set s.good s.held s.hops))) ∧ Below W.heap.size W w') := Lib.hid (fun W h => synced_calls p s A c g me W h)
  have H := Fr.start1 (M := fun k => k = g) (A := fun _ => False) (p := fun _ => True) (fun _ h => h.elim) hg rfl Tr_true
  have HG := Lib.hid hg
  clear hg
  obtain ⟨lo, hi, time, set, held, hops, good, tab, st, sn, life⟩ := s
  dsimp only at H HG HY ⊢
  obtain ⟨n, hn⟩ : ∃ n, tab.length = n := ⟨_, rfl⟩
  obtain ⟨y, hy⟩ : ∃ y, syncE (ofP p set good held hops) = y := ⟨_, rfl⟩
  rw [hn] at H HG
  rw [hn, hy] at HY
  have HYE : y = 0 ∨ y = 20 := by rw [← hy]; unfold syncE; split; exact .inr rfl; exact .inl rfl
  rw [hy]
  clear hn hy
  rcases HYE with rfl | rfl
  · go_enter Tryz.func43, Tryz.ntmps43
    go_wp2_with (first
      | (go_at_call 46; (with_reducible refine (HY.out _ (H.of At.head)).mono ?_); rintro e w' ⟨rfl, hb⟩; have H1 := H.call hb; clear hb; replace H := H1; clear H1)
      | fail)
    refine ko_region0 H (by kernel_rfl) (by as_aux_lemma => kernel_rfl) (fun HR => ?_)
    repeat (first
      | ((with_reducible refine kg_call (f := 83) rfl ?_); refine ko_call 83 _ rfl (by rfl) Tryz.func83 (by kernel_rfl) rfl (by kernel_rfl) (by simp only [List.map_toArray, List.map_cons, List.map_nil]; rfl) (fun W hC hd => Number_calls p _ W) ?_; (try simp only [Act.put, lsA, lsZ, lsS, Nat.reduceAdd]))
      | ((with_reducible refine kg_load (ty := 23) rfl ?_); refine ko_sub HR (n := 12) rfl (by rfl) (by rfl) (by repeat (first | exact At.head | apply At.tail)) Tryz.underlying23 rfl (by kernel_rfl) (by simp only [List.toList_toArray, List.drop_succ_cons, List.drop_zero, List.take_succ_cons, List.take_zero]; rfl) (by rfl) ?_; (try simp only [Act.put, lsA, lsZ, lsS, Nat.reduceAdd]))
      | ((with_reducible refine kg_load (ty := 3) rfl ?_); refine ko_get HR rfl (by rfl) (by rfl) (by repeat (first | exact At.head | apply At.tail)) Tryz.underlying3 rfl (by simp only [List.getElem?_toArray, List.getElem?_cons_succ, List.getElem?_cons_zero]; rfl) ?_; (try simp only [Act.put, lsA, lsZ, lsS, Nat.reduceAdd]))
      | (refine ko_pure rfl (by rfl) (fun W K hK => by go_simp; exact hK.out) ?_; (try simp only [Act.put, lsA, lsZ, lsS, Nat.reduceAdd]))
      | (refine ko_off (by rfl) ?_; (try simp only [Act.put, lsA, lsZ, lsS, Nat.reduceAdd])))
    refine ko_end ?_
    intro w1 H1
    clear HR H
    have H := H1
    clear H1
    (try simp only [List.map_cons, List.map_nil, cv, List.cons_append, List.nil_append] at H)
    go_wp2
    go_ret2
    exact ⟨rfl, Fr.below1 H HG.out (H.of (by repeat (first | exact At.head | apply At.tail)))⟩
  · go_enter Tryz.func43, Tryz.ntmps43
    go_wp2_with (first
      | (go_at_call 46; (with_reducible refine (HY.out _ (H.of At.head)).mono ?_); rintro e w' ⟨rfl, hb⟩; have H1 := H.call hb; clear hb; replace H := H1; clear H1)
      | fail)
    go_ret2
    exact ⟨rfl, Fr.below1 H HG.out (H.of (by repeat (first | exact At.head | apply At.tail)))⟩
def mostS (p : Par) (s : St) : Int := sadd [s.hi, farP p s.held]
theorem most_calls (p : Par) (s : St) (A : Option Addr) (c g : Nat) (me : Int) (w : World) (hg : w.heap[g]? = some (.cells #[.int .i64 p.N, .int .i64 p.F, .int .i64 p.D, .int .i64 p.Be, .int .i64 p.Rho, .int .i64 p.De, .int .i64 p.Ji, .int .i64 p.Eps, .int .i64 p.Mu, .int .i64 p.Ho, .int .i64 p.Pu, .int .i64 p.Se, .int .i64 s.lo, .int .i64 s.hi, .int .i64 s.time, .bool s.set, .int .i64 s.held, .int .i64 s.hops, .bool s.good, .slice A s.tab.length c, .int .i64 s.st, .int .i64 s.sn, .int .i64 s.life, .int .i64 me] 41 (0, 0))) : Calls Tryz.prog 68 #[.pointer (some ⟨g, 0, none⟩)] w fun e w' => e = .returned (.int .i64 (mostS p s)) ∧ Below w.heap.size w w' := by
  unfold mostS
  have H := Fr.start1 (M := fun k => k = g) (A := fun _ => False) (p := fun _ => True) (fun _ h => h.elim) hg rfl Tr_true
  have HG := Lib.hid hg
  clear hg
  obtain ⟨lo, hi, time, set, held, hops, good, tab, st, sn, life⟩ := s
  dsimp only at H HG ⊢
  obtain ⟨n, hn⟩ : ∃ n, tab.length = n := ⟨_, rfl⟩
  rw [hn] at H HG
  clear hn
  go_enter Tryz.func68, Tryz.ntmps68
  go_wp2
  refine ko_region0 H (by kernel_rfl) (by as_aux_lemma => kernel_rfl) (fun HR => ?_)
  repeat (first
    | ((with_reducible refine kg_call (f := 65) rfl ?_); refine ko_call 65 _ rfl (by rfl) Tryz.func65 (by kernel_rfl) rfl (by kernel_rfl) (by simp only [List.map_toArray, List.map_cons, List.map_nil]; rfl) (fun W hC hd => Far_calls p _ W) ?_; (try simp only [Act.put, lsA, lsZ, lsS, Nat.reduceAdd]))
    | ((with_reducible refine kg_call (f := 52) rfl ?_); refine ko_call 52 _ rfl (by rfl) Tryz.func52 (by kernel_rfl) rfl (by kernel_rfl) (by simp only [List.map_toArray, List.map_cons, List.map_nil]; rfl) (fun W hC hd => Add2 (depH.hd hd (by kernel_rfl))) ?_; (try simp only [Act.put, lsA, lsZ, lsS, Nat.reduceAdd]))
    | ((with_reducible refine kg_load (ty := 3) rfl ?_); refine ko_get HR rfl (by rfl) (by rfl) (by repeat (first | exact At.head | apply At.tail)) Tryz.underlying3 rfl (by simp only [List.getElem?_toArray, List.getElem?_cons_succ, List.getElem?_cons_zero]; rfl) ?_; (try simp only [Act.put, lsA, lsZ, lsS, Nat.reduceAdd]))
    | ((with_reducible refine kg_load (ty := 23) rfl ?_); refine ko_sub HR (n := 12) rfl (by rfl) (by rfl) (by repeat (first | exact At.head | apply At.tail)) Tryz.underlying23 rfl (by kernel_rfl) (by simp only [List.toList_toArray, List.drop_succ_cons, List.drop_zero, List.take_succ_cons, List.take_zero]; rfl) (by rfl) ?_; (try simp only [Act.put, lsA, lsZ, lsS, Nat.reduceAdd]))
    | ((with_reducible refine kg_dst (N := 19) rfl ?_); refine ko_row rfl (by rfl) (fun W K hK => by go_simp; exact hK.out) ?_; intro x19; (try simp only [Act.put, lsA, lsZ, lsS, Nat.reduceAdd]))
    | (refine ko_pure rfl (by rfl) (fun W K hK => by go_simp; exact hK.out) ?_; (try simp only [Act.put, lsA, lsZ, lsS, Nat.reduceAdd]))
    | (refine ko_off (by rfl) ?_; (try simp only [Act.put, lsA, lsZ, lsS, Nat.reduceAdd])))
  refine ko_end ?_
  intro w1 H1
  clear HR H
  have H := H1
  clear H1
  (try simp only [List.map_cons, List.map_nil, cv, List.cons_append, List.nil_append] at H)
  go_wp2
  go_ret
  exact ⟨rfl, Fr.below1 H HG.out (H.of (by repeat (first | exact At.head | apply At.tail)))⟩
end Go.Proofs.YtbmfgcekglgliaaGreat.G

namespace Go.Proofs.YtbmfgcekglgliaaGreat.G
open Go.RowKit Go.Proofs.YtbmfgcekglgliaaGreatW.PrintWords Go.Proofs.YtbmfgcekglgliaaGreatW.PrintLast Go.Proofs.YtbmfgcekglgliaaGreatW.PrintMore Go.Proofs.YtbmfgcekglgliaaGreatPl Go.Proofs.YtbmfgcekglgliaaGreatEm Go.Proofs.YtbmfgcekglgliaaGreatKr Go.Proofs.YtbmfgcekglgliaaGreatRz Go.Proofs.YtbmfgcekglgliaaGreat.X
set_option linter.unusedVariables false
set_option linter.unusedSimpArgs false
set_option maxRecDepth 100000 in
set_option maxHeartbeats 4000000 in
theorem Stamp_calls (p : Par) (s : St) (A : Option Addr) (c g : Nat) (me : Int) (w : World) (hg : w.heap[g]? = some (.cells #[.int .i64 p.N, .int .i64 p.F, .int .i64 p.D, .int .i64 p.Be, .int .i64 p.Rho, .int .i64 p.De, .int .i64 p.Ji, .int .i64 p.Eps, .int .i64 p.Mu, .int .i64 p.Ho, .int .i64 p.Pu, .int .i64 p.Se, .int .i64 s.lo, .int .i64 s.hi, .int .i64 s.time, .bool s.set, .int .i64 s.held, .int .i64 s.hops, .bool s.good, .slice A s.tab.length c, .int .i64 s.st, .int .i64 s.sn, .int .i64 s.life, .int .i64 me] 41 (0, 0))) :
    Calls Tryz.prog 44 #[.pointer (some ⟨g, 0, none⟩)] w fun e w' => e = .returned (.tuple #[.agg #[.int .i64 (tickP s.st s.sn s.time).1, .int .i64 (tickP s.st s.sn s.time).2], .int .i64 0]) ∧ w'.heap[g]? = some (.cells #[.int .i64 p.N, .int .i64 p.F, .int .i64 p.D, .int .i64 p.Be, .int .i64 p.Rho, .int .i64 p.De, .int .i64 p.Ji, .int .i64 p.Eps, .int .i64 p.Mu, .int .i64 p.Ho, .int .i64 p.Pu, .int .i64 p.Se, .int .i64 s.lo, .int .i64 s.hi, .int .i64 s.time, .bool s.set, .int .i64 s.held, .int .i64 s.hops, .bool s.good, .slice A s.tab.length c, .int .i64 (tickP s.st s.sn s.time).1, .int .i64 (tickP s.st s.sn s.time).2, .int .i64 s.life, .int .i64 me] 41 (0, 0)) ∧ Chg (fun k => k = g) w w' := by
  have H := Fr.start1 (M := fun k => k = g) (A := fun _ => False) (p := fun _ => True) (fun _ h => h.elim) hg rfl Tr_true
  clear hg
  obtain ⟨lo, hi, time, set, held, hops, good, tab, st, sn, life⟩ := s
  dsimp only at H ⊢
  obtain ⟨n, hn⟩ : ∃ n, tab.length = n := ⟨_, rfl⟩
  rw [hn] at H ⊢
  clear hn
  go_enter Tryz.func44, Tryz.ntmps44
  go_wp2_with (first
    | ((with_reducible refine gate_dst (N := 2) rfl ?_); refine fr_new H (N := 2) rfl rfl (cs := #[.int .i64 0, .int .i64 0]) (t := 28) ?hr ?_; (case hr => first | (go_simp; done) | (go_simp; rfl)); intro g2 w2 H1; replace H := H1; clear H1)
    | ((with_reducible refine gate_store (t := 28) (p := 2) rfl ?_); refine fr_put H rfl rfl rfl rfl rfl (by repeat (first | exact At.head | apply At.tail)) (by rfl) (by kernel_rfl) (by simp [Value.oneCell']) ?_; intro w2_ H1; replace H := H1; clear H1)
    | ((with_reducible refine gate_dst (N := 28) rfl ?_); refine fr_sub H (n := 2) rfl rfl rfl (by repeat (first | exact At.head | apply At.tail)) Tryz.underlying28 rfl (by kernel_rfl) (by simp only [List.toList_toArray, List.drop_succ_cons, List.drop_zero, List.take_succ_cons, List.take_zero]; rfl) (by rfl) ?_)
    | fail)
  refine ro_start (Frs _ _ _ _ _) [17] [0, 1, 2, 3, 4, 5, 6, 7, 8, 9, 10, 11, 12, 13, 14, 15, 16, 17] 18 (by kernel_rfl) (by rfl) (by simp only [pickR, List.getElem?_cons_succ, List.getElem?_cons_zero]; rfl) (by rfl) (H.drewN 1) (fun HS => ?_)
  have H1 : Fr _ _ _ _ _ _ := HS
  clear HS H
  have H := H1
  clear H1
  repeat (first
    | ((with_reducible refine rz_call (f := 69) rfl ?_); refine ro_call 69 _ rfl (by kernel_rfl) (by kernel_rfl) (by rfl) Tryz.func69 (by kernel_rfl) rfl (by simp only [List.map_toArray, List.map_cons, List.map_nil]; rfl) ?_; (refine (Tick_calls _ _ _ _).mono ?_); rintro e w' ⟨rfl, hb⟩; have H1 := H.call hb; refine ⟨_, rfl, H1, fun _ => ?_⟩; clear hb; replace H := H1; clear H1; (try simp only [Act.put, lsA, lsZ, lsS, Nat.reduceAdd]))
    | ((with_reducible refine rz_load (ty := 28) rfl ?_); refine ro_sub H (m := 2) rfl (by kernel_rfl) (fun _ _ _ h => h) (by rfl) (by rfl) (by repeat (first | exact At.head | apply At.tail)) Tryz.underlying28 rfl (by kernel_rfl) (by simp only [List.toList_toArray, List.drop_succ_cons, List.drop_zero, List.take_succ_cons, List.take_zero]; rfl) (by rfl) ?_; (try simp only [Act.put, lsA, lsZ, lsS, Nat.reduceAdd]))
    | ((with_reducible refine rz_load (ty := 3) rfl ?_); refine ro_get H rfl (by kernel_rfl) (fun _ _ _ h => h) (by rfl) (by rfl) (by repeat (first | exact At.head | apply At.tail)) Tryz.underlying3 rfl (by simp only [List.getElem?_toArray, List.getElem?_cons_succ, List.getElem?_cons_zero]; rfl) ?_; (try simp only [Act.put, lsA, lsZ, lsS, Nat.reduceAdd]))
    | ((with_reducible refine rz_store (ty := 28) rfl ?_); refine ro_set H (u := .agg (List.toArray _)) rfl rfl (by kernel_rfl) (by kernel_rfl) (by rfl) (by rfl) (by rfl) (by repeat (first | exact At.head | apply At.tail)) (Nat.le_of_ble_eq_true rfl) (by simp only [Value.cells, List.take_succ_cons, List.take_zero, List.drop_succ_cons, List.drop_zero, List.cons_append, List.nil_append, List.size_toArray, List.length_cons, List.length_nil, Nat.reduceAdd, List.append_nil, List.drop_nil, List.take_nil, List.toList_toArray]; rfl) (by kernel_rfl) (by simp [Value.cells, Value.oneCell']) ?_; intro w1 H1; replace H := H1; clear H1; (try simp only [Act.put, lsA, lsZ, lsS, Nat.reduceAdd]))
    | (refine ro_off (by kernel_rfl) (fun _ _ _ h => h) (by rfl) ?_; (try simp only [Act.put, lsA, lsZ, lsS, Nat.reduceAdd]))
    | (refine ro_pure (by kernel_rfl) (fun _ _ _ h => h) (by rfl) (fun W K hK => by go_simp; exact hK.out) ?_; (try simp only [Act.put, lsA, lsZ, lsS, Nat.reduceAdd])))
  refine ro_done (by kernel_rfl) ?_
  go_wp2_with (first
    | ((with_reducible refine gate_dst (N := 2) rfl ?_); refine fr_new H (N := 2) rfl rfl (cs := #[.int .i64 0, .int .i64 0]) (t := 28) ?hr ?_; (case hr => first | (go_simp; done) | (go_simp; rfl)); intro g2 w2 H1; replace H := H1; clear H1)
    | ((with_reducible refine gate_store (t := 28) (p := 2) rfl ?_); refine fr_put H rfl rfl rfl rfl rfl (by repeat (first | exact At.head | apply At.tail)) (by rfl) (by kernel_rfl) (by simp [Value.oneCell']) ?_; intro w2_ H1; replace H := H1; clear H1)
    | ((with_reducible refine gate_dst (N := 28) rfl ?_); refine fr_sub H (n := 2) rfl rfl rfl (by repeat (first | exact At.head | apply At.tail)) Tryz.underlying28 rfl (by kernel_rfl) (by simp only [List.toList_toArray, List.drop_succ_cons, List.drop_zero, List.take_succ_cons, List.take_zero]; rfl) (by rfl) ?_)
    | fail)
  refine bodyPost_ret (results_ct rfl _ _ g2 28 _ (0, 0) _ rfl (H.of (by repeat (first | exact At.head | apply At.tail))) Tryz.underlying28 rfl (by kernel_rfl)) rfl ?_
  exact ⟨rfl, H.of (by repeat (first | exact At.head | apply At.tail)), H.chg⟩
def jumpP (p : Par) (was : St) (ticks : Int) (nx : St) : Bool := (ofP p was.set was.good was.held was.hops == 0) || decide (farP p nx.held < sabs (ssub (midP nx.lo nx.hi) (sadd [was.time, ticks])))
def stepTime (p : Par) (was : St) (ticks : Int) (nx : St) : Int := slewP p was.time was.set ticks (midP nx.lo nx.hi) (jumpP p was ticks nx)
def stepMend (p : Par) (was : St) (ticks : Int) (nx : St) : Int × Int × Bool := mendP was.st was.sn (stepTime p was ticks nx) (sadd [(saneS p.D nx).hi, farP p (saneS p.D nx).held])
def stepTick (p : Par) (was : St) (ticks : Int) (nx : St) : Int × Int := tickP (stepMend p was ticks nx).1 (stepMend p was ticks nx).2.1 (stepTime p was ticks nx)
def stepS (p : Par) (was : St) (ticks : Int) (nx : St) : St where
  lo := (saneS p.D nx).lo
  hi := (saneS p.D nx).hi
  time := stepTime p was ticks nx
  set := true
  held := (saneS p.D nx).held
  hops := (saneS p.D nx).hops
  good := (saneS p.D nx).good
  tab := (saneS p.D nx).tab
  st := (stepTick p was ticks nx).1
  sn := (stepTick p was ticks nx).2
  life := if ((stepMend p was ticks nx).2.2 || decide (stepTime p was ticks nx < was.time)) = true then bound (sadd [bound was.life 0 2305843009213693952, 1]) 0 2305843009213693952 else bound was.life 0 2305843009213693952
set_option maxRecDepth 100000 in
set_option maxHeartbeats 16000000 in
theorem Step_calls (p : Par) (s : St) (A : Option Addr) (c g : Nat) (me ticks : Int) (nx : St) (A2 : Option Addr) (c2 : Nat) (w : World) (hg : w.heap[g]? = some (.cells #[.int .i64 p.N, .int .i64 p.F, .int .i64 p.D, .int .i64 p.Be, .int .i64 p.Rho, .int .i64 p.De, .int .i64 p.Ji, .int .i64 p.Eps, .int .i64 p.Mu, .int .i64 p.Ho, .int .i64 p.Pu, .int .i64 p.Se, .int .i64 s.lo, .int .i64 s.hi, .int .i64 s.time, .bool s.set, .int .i64 s.held, .int .i64 s.hops, .bool s.good, .slice A s.tab.length c, .int .i64 s.st, .int .i64 s.sn, .int .i64 s.life, .int .i64 me] 41 (0, 0))) (hr : Tr (fun k => k = g) w (fun W => Kd.C k58 W A2 nx.tab.length nx.tab)) (hl : nx.tab.length ≤ 4096) :
    Calls Tryz.prog 35 #[.pointer (some ⟨g, 0, none⟩), .int .i64 ticks, .agg #[.int .i64 nx.lo, .int .i64 nx.hi, .int .i64 nx.time, .bool nx.set, .int .i64 nx.held, .int .i64 nx.hops, .bool nx.good, .slice A2 nx.tab.length c2, .int .i64 nx.st, .int .i64 nx.sn, .int .i64 nx.life]] w fun e w' => ∃ A' c', e = .returned (.tuple #[]) ∧ w'.heap[g]? = some (.cells #[.int .i64 p.N, .int .i64 p.F, .int .i64 p.D, .int .i64 p.Be, .int .i64 p.Rho, .int .i64 p.De, .int .i64 p.Ji, .int .i64 p.Eps, .int .i64 p.Mu, .int .i64 p.Ho, .int .i64 p.Pu, .int .i64 p.Se, .int .i64 (stepS p s ticks nx).lo, .int .i64 (stepS p s ticks nx).hi, .int .i64 (stepS p s ticks nx).time, .bool (stepS p s ticks nx).set, .int .i64 (stepS p s ticks nx).held, .int .i64 (stepS p s ticks nx).hops, .bool (stepS p s ticks nx).good, .slice A' (stepS p s ticks nx).tab.length c', .int .i64 (stepS p s ticks nx).st, .int .i64 (stepS p s ticks nx).sn, .int .i64 (stepS p s ticks nx).life, .int .i64 me] 41 (0, 0)) ∧ w'.ownsRow w.heap.size 58 2 (.slice A' (stepS p s ticks nx).tab.length c') (stepS p s ticks nx).tab.length (flL (stepS p s ticks nx).tab) ∧ Chg (fun k => k = g) w w' := by
  have H := Fr.start1 (M := fun k => k = g) (A := fun _ => False) (p := fun W => Kd.C k58 W A2 nx.tab.length nx.tab) (fun _ h => h.elim) hg rfl (Tr.less hr (fun k _ q => q.resolve_left id))
  have HSN := Lib.hid (fun W h => Sane_calls p nx A2 c2 W h hl)
  obtain ⟨lo, hi, time, set, held, hops, good, tab, st, sn, life⟩ := s
  obtain ⟨nlo, nhi, ntime, nset, nheld, nhops, ngood, ntab, nst, nsn, nlife⟩ := nx
  dsimp only at H HSN hl hr ⊢
  obtain ⟨z, hz⟩ : ∃ z, saneS p.D ⟨nlo, nhi, ntime, nset, nheld, nhops, ngood, ntab, nst, nsn, nlife⟩ = z := ⟨_, rfl⟩
  obtain ⟨zlo, zhi, ztime, zset, zheld, zhops, zgood, ztab, zst, zsn, zlife⟩ := z
  rw [hz] at HSN
  dsimp only at HSN
  obtain ⟨o, ho⟩ : ∃ x, ofP p set good held hops = x := ⟨_, rfl⟩
  obtain ⟨u, hu⟩ : ∃ x, midP nlo nhi = x := ⟨_, rfl⟩
  obtain ⟨off, hoff⟩ : ∃ x, sabs (ssub u (sadd [time, ticks])) = x := ⟨_, rfl⟩
  obtain ⟨fr, hfr⟩ : ∃ x, farP p nheld = x := ⟨_, rfl⟩
  obtain ⟨j, hj⟩ : ∃ x, ((o == 0) || decide (fr < off)) = x := ⟨_, rfl⟩
  obtain ⟨ct, hct⟩ : ∃ x, slewP p time set ticks u j = x := ⟨_, rfl⟩
  obtain ⟨mo, hmo⟩ : ∃ x, sadd [zhi, farP p zheld] = x := ⟨_, rfl⟩
  obtain ⟨⟨m1, m2, m3⟩, hm⟩ : ∃ x, mendP st sn ct mo = x := ⟨_, rfl⟩
  obtain ⟨⟨t1, t2⟩, ht⟩ : ∃ x, tickP m1 m2 ct = x := ⟨_, rfl⟩
  obtain ⟨l0, hl0⟩ : ∃ x, bound life 0 2305843009213693952 = x := ⟨_, rfl⟩
  obtain ⟨l1, hl1⟩ : ∃ x, bound (sadd [l0, 1]) 0 2305843009213693952 = x := ⟨_, rfl⟩
  obtain ⟨n, hn⟩ : ∃ x, tab.length = x := ⟨_, rfl⟩
  obtain ⟨nn, hnn⟩ : ∃ x, ntab.length = x := ⟨_, rfl⟩
  have KMid := Lib.hid (fun W => hu ▸ Mid_calls nlo nhi W)
  have KAbs := Lib.hid (fun W => hoff ▸ ret_below (Abs_calls (ssub u (sadd [time, ticks])) W))
  have KOf : Hid (∀ W, Calls Tryz.prog 64 #[.agg #[.int .i64 p.N, .int .i64 p.F, .int .i64 p.D, .int .i64 p.Be, .int .i64 p.Rho, .int .i64 p.De, .int .i64 p.Ji, .int .i64 p.Eps, .int .i64 p.Mu, .int .i64 p.Ho, .int .i64 p.Pu, .int .i64 p.Se], .agg #[.int .i64 lo, .int .i64 hi, .int .i64 time, .bool set, .int .i64 held, .int .i64 hops, .bool good, .slice A n c, .int .i64 st, .int .i64 sn, .int .i64 life]] W fun e w' => e = .returned (.int .i64 o) ∧ Below W.heap.size W w') := Lib.hid (fun W => ho ▸ Of_calls p lo hi time set held hops good A n c st sn life W)
  have KFar := Lib.hid (fun W => hfr ▸ Far_calls p nheld W)
  have KSlew := Lib.hid (fun W => hct ▸ Slew_calls p time set ticks u j W)
  have KMost : Hid (∀ W A1 c1, W.heap[g]? = some (.cells #[.int .i64 p.N, .int .i64 p.F, .int .i64 p.D, .int .i64 p.Be, .int .i64 p.Rho, .int .i64 p.De, .int .i64 p.Ji, .int .i64 p.Eps, .int .i64 p.Mu, .int .i64 p.Ho, .int .i64 p.Pu, .int .i64 p.Se, .int .i64 zlo, .int .i64 zhi, .int .i64 ct, .bool true, .int .i64 zheld, .int .i64 zhops, .bool zgood, .slice A1 ztab.length c1, .int .i64 st, .int .i64 sn, .int .i64 l0, .int .i64 me] 41 (0, 0)) → Calls Tryz.prog 68 #[.pointer (some ⟨g, 0, none⟩)] W fun e w' => e = .returned (.int .i64 mo) ∧ Below W.heap.size W w') := Lib.hid (fun W A1 c1 h => hmo ▸ most_calls p ⟨zlo, zhi, ct, true, zheld, zhops, zgood, ztab, st, sn, l0⟩ A1 c1 g me W h)
  have KMend : Hid (∀ W, Calls Tryz.prog 67 #[.agg #[.int .i64 st, .int .i64 sn], .int .i64 ct, .int .i64 mo] W fun e w' => e = .returned (.tuple #[.agg #[.int .i64 m1, .int .i64 m2], .bool m3]) ∧ Below W.heap.size W w') := Lib.hid (fun W => by have := Mend_calls st sn ct mo W; rw [hm] at this; exact this)
  have KTick : Hid (∀ W, Calls Tryz.prog 69 #[.agg #[.int .i64 m1, .int .i64 m2], .int .i64 ct] W fun e w' => e = .returned (.agg #[.int .i64 t1, .int .i64 t2]) ∧ Below W.heap.size W w') := Lib.hid (fun W => by have := Tick_calls m1 m2 ct W; rw [ht] at this; exact this)
  have KB1 := Lib.hid (fun W => hl0 ▸ ret_below (Bound_calls life 0 2305843009213693952 W))
  have KB2 := Lib.hid (fun W => hl1 ▸ ret_below (Bound_calls (sadd [l0, 1]) 0 2305843009213693952 W))
  have HS : Hid (stepS p ⟨lo, hi, time, set, held, hops, good, tab, st, sn, life⟩ ticks ⟨nlo, nhi, ntime, nset, nheld, nhops, ngood, ntab, nst, nsn, nlife⟩ = ⟨zlo, zhi, ct, true, zheld, zhops, zgood, ztab, t1, t2, if (m3 || decide (ct < time)) = true then l1 else l0⟩) := Lib.hid (by
    have e1 : jumpP p ⟨lo, hi, time, set, held, hops, good, tab, st, sn, life⟩ ticks ⟨nlo, nhi, ntime, nset, nheld, nhops, ngood, ntab, nst, nsn, nlife⟩ = j := by
      unfold jumpP; dsimp only; rw [ho, hu, hoff, hfr, hj]
    have e2 : stepTime p ⟨lo, hi, time, set, held, hops, good, tab, st, sn, life⟩ ticks ⟨nlo, nhi, ntime, nset, nheld, nhops, ngood, ntab, nst, nsn, nlife⟩ = ct := by
      unfold stepTime; rw [e1]; dsimp only; rw [hu, hct]
    have e3 : stepMend p ⟨lo, hi, time, set, held, hops, good, tab, st, sn, life⟩ ticks ⟨nlo, nhi, ntime, nset, nheld, nhops, ngood, ntab, nst, nsn, nlife⟩ = (m1, m2, m3) := by
      unfold stepMend; rw [e2, hz]; dsimp only; rw [hmo, hm]
    have e4 : stepTick p ⟨lo, hi, time, set, held, hops, good, tab, st, sn, life⟩ ticks ⟨nlo, nhi, ntime, nset, nheld, nhops, ngood, ntab, nst, nsn, nlife⟩ = (t1, t2) := by
      unfold stepTick; rw [e3, e2]; exact ht
    unfold stepS
    rw [e2, e3, e4, hz]
    dsimp only
    rw [hl0, hl1])
  rw [HS.out]
  dsimp only
  rw [hnn] at H HSN ⊢
  rw [hn] at H
  clear hg hr hl hz ho hu hoff hfr hct hmo hm ht hl0 hl1 hn hnn
  cases hb : (o == 0)
  all_goals
    rw [hb] at hj
    first | rw [Bool.true_or] at hj | rw [Bool.false_or] at hj
    subst hj
    go_enter Tryz.func35, Tryz.ntmps35
    go_wp2_with (first
      | (go_at_call 62; (with_reducible refine (KMid.out _).mono ?_); rintro e w' ⟨rfl, hb⟩; have H1 := H.call hb; clear hb; replace H := H1; clear H1)
      | (go_at_call 52; (with_reducible refine (Add2 (H.of At.head)).mono ?_); rintro e w' ⟨rfl, hb⟩; have H1 := H.call hb; clear hb; replace H := H1; clear H1)
      | (go_at_call 58; (with_reducible refine (ret_below (Sub_calls _ _ _)).mono ?_); rintro e w' ⟨rfl, hb⟩; have H1 := H.call hb; clear hb; replace H := H1; clear H1)
      | (go_at_call 63; (with_reducible refine (KAbs.out _).mono ?_); rintro e w' ⟨rfl, hb⟩; have H1 := H.call hb; clear hb; replace H := H1; clear H1)
      | ((with_reducible refine gate_dst (N := 5) rfl ?_); refine fr_box H rfl rfl rfl ?_; intro g5 w5 H1; replace H := H1; clear H1)
      | ((with_reducible refine gate_dst (N := 18) rfl ?_); refine fr_sub H (n := 11) rfl rfl rfl (by repeat (first | exact At.head | apply At.tail)) Tryz.underlying30 rfl (by kernel_rfl) (by simp only [List.toList_toArray, List.drop_succ_cons, List.drop_zero, List.take_succ_cons, List.take_zero]; rfl) (by rfl) ?_)
      | ((with_reducible refine gate_dst (N := 6) rfl ?_); refine fr_new H (N := 6) rfl rfl (cs := #[.int .i64 0, .int .i64 0, .int .i64 0, .bool false, .int .i64 0, .int .i64 0, .bool false, .slice none 0 0, .int .i64 0, .int .i64 0, .int .i64 0]) (t := 30) ?hr ?_; (case hr => first | (go_simp; done) | (go_simp; rfl)); intro g6 w6 H1; replace H := H1; clear H1)
      | ((with_reducible refine gate_store (t := 30) (p := 6) rfl ?_); refine fr_put H rfl rfl rfl rfl rfl (by repeat (first | exact At.head | apply At.tail)) (by rfl) (by kernel_rfl) (by simp [Value.oneCell']) ?_; intro w6_ H1; replace H := H1; clear H1)
      | ((with_reducible refine gate_dst (N := 20) rfl ?_); refine fr_sub H (n := 2) rfl rfl rfl (by repeat (first | exact At.head | apply At.tail)) Tryz.underlying25 rfl (by kernel_rfl) (by simp only [List.toList_toArray, List.drop_succ_cons, List.drop_zero, List.take_succ_cons, List.take_zero]; rfl) (by rfl) ?_)
      | ((with_reducible refine gate_dst (N := 24) rfl ?_); refine fr_get H rfl rfl rfl (by repeat (first | exact At.head | apply At.tail)) Tryz.underlying3 rfl (by simp only [List.getElem?_toArray, List.getElem?_cons_succ, List.getElem?_cons_zero]; rfl) ?_)
      | ((with_reducible refine gate_dst (N := 26) rfl ?_); refine fr_rowv H (N := 26) rfl rfl (fun K hK => by go_simp; exact hK.out) ?_; intro x26 w26 H1; replace H := H1; clear H1)
      | ((with_reducible refine gate_dst (N := 107) rfl ?_); refine fr_sub H (n := 2) rfl rfl rfl (by repeat (first | exact At.head | apply At.tail)) Tryz.underlying104 rfl (by kernel_rfl) (by simp only [List.toList_toArray, List.drop_succ_cons, List.drop_zero, List.take_succ_cons, List.take_zero]; rfl) (by rfl) ?_)
      | ((with_reducible refine gate_dst (N := 109) rfl ?_); refine fr_get H rfl rfl rfl (by repeat (first | exact At.head | apply At.tail)) Tryz.underlying3 rfl (by simp only [List.getElem?_toArray, List.getElem?_cons_succ, List.getElem?_cons_zero]; rfl) ?_)
      | ((with_reducible refine gate_dst (N := 111) rfl ?_); refine fr_pure (v := .agg #[_, _]) rfl rfl (fun W K hK => by go_simp; exact hK.out) ?_)
      | ((with_reducible refine gate_store (t := 28) (p := 114) rfl ?_); refine fr_set H (u := .agg (List.toArray _)) rfl rfl rfl rfl rfl (by repeat (first | exact At.head | apply At.tail)) (Nat.le_of_ble_eq_true rfl) (by simp only [Value.cells, List.take_succ_cons, List.take_zero, List.drop_succ_cons, List.drop_zero, List.cons_append, List.nil_append, List.size_toArray, List.length_cons, List.length_nil, Nat.reduceAdd, List.append_nil, List.drop_nil, List.take_nil, List.toList_toArray]; rfl) (by kernel_rfl) (by simp [Value.cells, Value.oneCell']) ?_; intro w114_ H1; replace H := H1; clear H1)
      | ((with_reducible refine gate_dst (N := 118) rfl ?_); (try (refine gate_guard (by rfl) ?_; dsimp only)); refine fr_get H rfl rfl rfl (by repeat (first | exact At.head | apply At.tail)) Tryz.underlying3 rfl (by simp only [List.getElem?_toArray, List.getElem?_cons_succ, List.getElem?_cons_zero]; rfl) ?_)
      | ((with_reducible refine gate_dst (N := 120) rfl ?_); (try (refine gate_guard (by rfl) ?_; dsimp only)); refine fr_get H rfl rfl rfl (by repeat (first | exact At.head | apply At.tail)) Tryz.underlying3 rfl (by simp only [List.getElem?_toArray, List.getElem?_cons_succ, List.getElem?_cons_zero]; rfl) ?_)
      | ((with_reducible refine gate_dst (N := 128) rfl ?_); refine fr_get H rfl rfl rfl (by repeat (first | exact At.head | apply At.tail)) Tryz.underlying3 rfl (by simp only [List.getElem?_toArray, List.getElem?_cons_succ, List.getElem?_cons_zero]; rfl) ?_)
      | ((with_reducible refine gate_dst (N := 129) rfl ?_); refine fr_rowv H (N := 129) rfl rfl (fun K hK => by go_simp; exact hK.out) ?_; intro x129 w129 H1; replace H := H1; clear H1)
      | ((with_reducible refine gate_store (t := 3) (p := 134) rfl ?_); refine fr_set H (u := .int .i64 _) rfl rfl rfl rfl rfl (by repeat (first | exact At.head | apply At.tail)) (Nat.le_of_ble_eq_true rfl) (by simp only [Value.cells, List.take_succ_cons, List.take_zero, List.drop_succ_cons, List.drop_zero, List.cons_append, List.nil_append, List.size_toArray, List.length_cons, List.length_nil, Nat.reduceAdd, List.append_nil, List.drop_nil, List.take_nil, List.toList_toArray]; rfl) (by kernel_rfl) (by simp [Value.cells, Value.oneCell']) ?_; intro w134_ H1; replace H := H1; clear H1)
      | fail)
    refine ko_region0 H (by kernel_rfl) (by as_aux_lemma => kernel_rfl) (fun HR => ?_)
    repeat (first
      | ((with_reducible refine kg_call (f := 64) rfl ?_); refine ko_call 64 _ rfl (by rfl) Tryz.func64 (by kernel_rfl) rfl (by kernel_rfl) (by simp only [List.map_toArray, List.map_cons, List.map_nil]; rfl) (fun W hC hd => KOf.out W) ?_; (try simp only [Act.put, lsA, lsZ, lsS, Nat.reduceAdd]))
      | ((with_reducible refine kg_call (f := 65) rfl ?_); refine ko_call 65 _ rfl (by rfl) Tryz.func65 (by kernel_rfl) rfl (by kernel_rfl) (by simp only [List.map_toArray, List.map_cons, List.map_nil]; rfl) (fun W hC hd => KFar.out W) ?_; (try simp only [Act.put, lsA, lsZ, lsS, Nat.reduceAdd]))
      | ((with_reducible refine kg_load (ty := 23) rfl ?_); refine ko_sub HR (n := 12) rfl (by rfl) (by rfl) (by repeat (first | exact At.head | apply At.tail)) Tryz.underlying23 rfl (by kernel_rfl) (by simp only [List.toList_toArray, List.drop_succ_cons, List.drop_zero, List.take_succ_cons, List.take_zero]; rfl) (by rfl) ?_; (try simp only [Act.put, lsA, lsZ, lsS, Nat.reduceAdd]))
      | ((with_reducible refine kg_load (ty := 30) rfl ?_); refine ko_sub HR (n := 11) rfl (by rfl) (by rfl) (by repeat (first | exact At.head | apply At.tail)) Tryz.underlying30 rfl (by kernel_rfl) (by simp only [List.toList_toArray, List.drop_succ_cons, List.drop_zero, List.take_succ_cons, List.take_zero]; rfl) (by rfl) ?_; (try simp only [Act.put, lsA, lsZ, lsS, Nat.reduceAdd]))
      | ((with_reducible refine kg_load (ty := 3) rfl ?_); refine ko_get HR rfl (by rfl) (by rfl) (by repeat (first | exact At.head | apply At.tail)) Tryz.underlying3 rfl (by simp only [List.getElem?_toArray, List.getElem?_cons_succ, List.getElem?_cons_zero]; rfl) ?_; (try simp only [Act.put, lsA, lsZ, lsS, Nat.reduceAdd]))
      | ((with_reducible refine kg_load (ty := 4) rfl ?_); refine ko_get HR rfl (by rfl) (by rfl) (by repeat (first | exact At.head | apply At.tail)) Tryz.underlying4 rfl (by simp only [List.getElem?_toArray, List.getElem?_cons_succ, List.getElem?_cons_zero]; rfl) ?_; (try simp only [Act.put, lsA, lsZ, lsS, Nat.reduceAdd]))
      | ((with_reducible refine kg_dst (N := 10) rfl ?_); refine ko_var rfl (by rfl) (fun W K hK => by go_simp; exact hK.out) ?_; intro g10; (try simp only [Act.put, lsA, lsZ, lsS, Nat.reduceAdd]))
      | ((with_reducible refine kg_store (ty := 101) rfl ?_); refine ko_put (u := .agg (List.toArray _)) rfl rfl (by rfl) (by rfl) (by rfl) (by repeat (first | exact VarAt.head | apply VarAt.tail)) (by kernel_rfl) (Nat.le_of_ble_eq_true rfl) (by simp only [Value.cells, List.take_succ_cons, List.take_zero, List.drop_succ_cons, List.drop_zero, List.cons_append, List.nil_append, List.length_cons, List.length_nil, Nat.reduceAdd, List.append_nil, List.drop_nil, List.take_nil]; rfl) (by repeat (first | exact VarAt.head | apply VarAt.tail)) (by simp [apartR, Value.cells]) (by kernel_rfl) (by simp [Value.cells, Value.oneCell']) ?_; (try simp only [Value.cells, List.length_cons, List.length_nil, Nat.reduceAdd]))
      | ((with_reducible refine kg_store (ty := 30) rfl ?_); refine ko_put (u := .agg (List.toArray _)) rfl rfl (by rfl) (by rfl) (by rfl) (by repeat (first | exact VarAt.head | apply VarAt.tail)) (by kernel_rfl) (Nat.le_of_ble_eq_true rfl) (by simp only [Value.cells, List.take_succ_cons, List.take_zero, List.drop_succ_cons, List.drop_zero, List.cons_append, List.nil_append, List.length_cons, List.length_nil, Nat.reduceAdd, List.append_nil, List.drop_nil, List.take_nil]; rfl) (by repeat (first | exact VarAt.head | apply VarAt.tail)) (by simp [apartR, Value.cells]) (by kernel_rfl) (by simp [Value.cells, Value.oneCell']) ?_; (try simp only [Value.cells, List.length_cons, List.length_nil, Nat.reduceAdd]))
      | ((with_reducible refine kg_load (ty := 28) rfl ?_); refine ko_sub HR (n := 2) rfl (by rfl) (by rfl) (by repeat (first | exact At.head | apply At.tail)) Tryz.underlying28 rfl (by kernel_rfl) (by simp only [List.toList_toArray, List.drop_succ_cons, List.drop_zero, List.take_succ_cons, List.take_zero]; rfl) (by rfl) ?_; (try simp only [Act.put, lsA, lsZ, lsS, Nat.reduceAdd]))
      | ((with_reducible refine kg_store (ty := 3) rfl ?_); refine ko_put (u := .int .i64 _) rfl rfl (by rfl) (by rfl) (by rfl) (by repeat (first | exact VarAt.head | apply VarAt.tail)) (by kernel_rfl) (Nat.le_of_ble_eq_true rfl) (by simp only [Value.cells, List.take_succ_cons, List.take_zero, List.drop_succ_cons, List.drop_zero, List.cons_append, List.nil_append, List.length_cons, List.length_nil, Nat.reduceAdd, List.append_nil, List.drop_nil, List.take_nil]; rfl) (by repeat (first | exact VarAt.head | apply VarAt.tail)) (by simp [apartR, Value.cells]) (by kernel_rfl) (by simp [Value.cells, Value.oneCell']) ?_; (try simp only [Value.cells, List.length_cons, List.length_nil, Nat.reduceAdd]))
      | ((with_reducible refine kg_store (ty := 4) rfl ?_); refine ko_put (u := .bool _) rfl rfl (by rfl) (by rfl) (by rfl) (by repeat (first | exact VarAt.head | apply VarAt.tail)) (by kernel_rfl) (Nat.le_of_ble_eq_true rfl) (by simp only [Value.cells, List.take_succ_cons, List.take_zero, List.drop_succ_cons, List.drop_zero, List.cons_append, List.nil_append, List.length_cons, List.length_nil, Nat.reduceAdd, List.append_nil, List.drop_nil, List.take_nil]; rfl) (by repeat (first | exact VarAt.head | apply VarAt.tail)) (by simp [apartR, Value.cells]) (by kernel_rfl) (by simp [Value.cells, Value.oneCell']) ?_; (try simp only [Value.cells, List.length_cons, List.length_nil, Nat.reduceAdd]))
      | ((with_reducible refine kg_store (ty := 28) rfl ?_); refine ko_put (u := .agg (List.toArray _)) rfl rfl (by rfl) (by rfl) (by rfl) (by repeat (first | exact VarAt.head | apply VarAt.tail)) (by kernel_rfl) (Nat.le_of_ble_eq_true rfl) (by simp only [Value.cells, List.take_succ_cons, List.take_zero, List.drop_succ_cons, List.drop_zero, List.cons_append, List.nil_append, List.length_cons, List.length_nil, Nat.reduceAdd, List.append_nil, List.drop_nil, List.take_nil]; rfl) (by repeat (first | exact VarAt.head | apply VarAt.tail)) (by simp [apartR, Value.cells]) (by kernel_rfl) (by simp [Value.cells, Value.oneCell']) ?_; (try simp only [Value.cells, List.length_cons, List.length_nil, Nat.reduceAdd]))
      | ((with_reducible refine kg_dst (N := 11) rfl ?_); refine ko_var rfl (by rfl) (fun W K hK => by go_simp; exact hK.out) ?_; intro g11; (try simp only [Act.put, lsA, lsZ, lsS, Nat.reduceAdd]))
      | ((with_reducible refine kg_store (ty := 104) rfl ?_); refine ko_put (u := .agg (List.toArray _)) rfl rfl (by rfl) (by rfl) (by rfl) (by repeat (first | exact VarAt.head | apply VarAt.tail)) (by kernel_rfl) (Nat.le_of_ble_eq_true rfl) (by simp only [Value.cells, List.take_succ_cons, List.take_zero, List.drop_succ_cons, List.drop_zero, List.cons_append, List.nil_append, List.length_cons, List.length_nil, Nat.reduceAdd, List.append_nil, List.drop_nil, List.take_nil]; rfl) (by repeat (first | exact VarAt.head | apply VarAt.tail)) (by simp [apartR, Value.cells]) (by kernel_rfl) (by simp [Value.cells, Value.oneCell']) ?_; (try simp only [Value.cells, List.length_cons, List.length_nil, Nat.reduceAdd]))
      | (refine ko_pure rfl (by rfl) (fun W K hK => by go_simp; exact hK.out) ?_; (try simp only [Act.put, lsA, lsZ, lsS, Nat.reduceAdd]))
      | (refine ko_off (by rfl) ?_; (try simp only [Act.put, lsA, lsZ, lsS, Nat.reduceAdd])))
    refine ko_end ?_
    intro w1 H1
    clear HR H
    have H := H1
    clear H1
    (try simp only [List.map_cons, List.map_nil, cv, List.cons_append, List.nil_append] at H)
    go_wp2
    refine ko_region0 H (by kernel_rfl) (by as_aux_lemma => kernel_rfl) (fun HR => ?_)
    repeat (first
      | ((with_reducible refine kg_call (f := 66) rfl ?_); refine ko_call 66 _ rfl (by rfl) Tryz.func66 (by kernel_rfl) rfl (by kernel_rfl) (by simp only [List.map_toArray, List.map_cons, List.map_nil]; rfl) (fun W hC hd => KSlew.out W) ?_; (try simp only [Act.put, lsA, lsZ, lsS, Nat.reduceAdd]))
      | ((with_reducible refine kg_load (ty := 23) rfl ?_); refine ko_sub HR (n := 12) rfl (by rfl) (by rfl) (by repeat (first | exact At.head | apply At.tail)) Tryz.underlying23 rfl (by kernel_rfl) (by simp only [List.toList_toArray, List.drop_succ_cons, List.drop_zero, List.take_succ_cons, List.take_zero]; rfl) (by rfl) ?_; (try simp only [Act.put, lsA, lsZ, lsS, Nat.reduceAdd]))
      | ((with_reducible refine kg_load (ty := 30) rfl ?_); refine ko_sub HR (n := 11) rfl (by rfl) (by rfl) (by repeat (first | exact At.head | apply At.tail)) Tryz.underlying30 rfl (by kernel_rfl) (by simp only [List.toList_toArray, List.drop_succ_cons, List.drop_zero, List.take_succ_cons, List.take_zero]; rfl) (by rfl) ?_; (try simp only [Act.put, lsA, lsZ, lsS, Nat.reduceAdd]))
      | ((with_reducible refine kg_load (ty := 3) rfl ?_); refine ko_get HR rfl (by rfl) (by rfl) (by repeat (first | exact At.head | apply At.tail)) Tryz.underlying3 rfl (by simp only [List.getElem?_toArray, List.getElem?_cons_succ, List.getElem?_cons_zero]; rfl) ?_; (try simp only [Act.put, lsA, lsZ, lsS, Nat.reduceAdd]))
      | ((with_reducible refine kg_load (ty := 4) rfl ?_); refine ko_get HR rfl (by rfl) (by rfl) (by repeat (first | exact At.head | apply At.tail)) Tryz.underlying4 rfl (by simp only [List.getElem?_toArray, List.getElem?_cons_succ, List.getElem?_cons_zero]; rfl) ?_; (try simp only [Act.put, lsA, lsZ, lsS, Nat.reduceAdd]))
      | ((with_reducible refine kg_dst (N := 10) rfl ?_); refine ko_var rfl (by rfl) (fun W K hK => by go_simp; exact hK.out) ?_; intro g10; (try simp only [Act.put, lsA, lsZ, lsS, Nat.reduceAdd]))
      | ((with_reducible refine kg_store (ty := 101) rfl ?_); refine ko_put (u := .agg (List.toArray _)) rfl rfl (by rfl) (by rfl) (by rfl) (by repeat (first | exact VarAt.head | apply VarAt.tail)) (by kernel_rfl) (Nat.le_of_ble_eq_true rfl) (by simp only [Value.cells, List.take_succ_cons, List.take_zero, List.drop_succ_cons, List.drop_zero, List.cons_append, List.nil_append, List.length_cons, List.length_nil, Nat.reduceAdd, List.append_nil, List.drop_nil, List.take_nil]; rfl) (by repeat (first | exact VarAt.head | apply VarAt.tail)) (by simp [apartR, Value.cells]) (by kernel_rfl) (by simp [Value.cells, Value.oneCell']) ?_; (try simp only [Value.cells, List.length_cons, List.length_nil, Nat.reduceAdd]))
      | ((with_reducible refine kg_store (ty := 30) rfl ?_); refine ko_put (u := .agg (List.toArray _)) rfl rfl (by rfl) (by rfl) (by rfl) (by repeat (first | exact VarAt.head | apply VarAt.tail)) (by kernel_rfl) (Nat.le_of_ble_eq_true rfl) (by simp only [Value.cells, List.take_succ_cons, List.take_zero, List.drop_succ_cons, List.drop_zero, List.cons_append, List.nil_append, List.length_cons, List.length_nil, Nat.reduceAdd, List.append_nil, List.drop_nil, List.take_nil]; rfl) (by repeat (first | exact VarAt.head | apply VarAt.tail)) (by simp [apartR, Value.cells]) (by kernel_rfl) (by simp [Value.cells, Value.oneCell']) ?_; (try simp only [Value.cells, List.length_cons, List.length_nil, Nat.reduceAdd]))
      | ((with_reducible refine kg_load (ty := 28) rfl ?_); refine ko_sub HR (n := 2) rfl (by rfl) (by rfl) (by repeat (first | exact At.head | apply At.tail)) Tryz.underlying28 rfl (by kernel_rfl) (by simp only [List.toList_toArray, List.drop_succ_cons, List.drop_zero, List.take_succ_cons, List.take_zero]; rfl) (by rfl) ?_; (try simp only [Act.put, lsA, lsZ, lsS, Nat.reduceAdd]))
      | ((with_reducible refine kg_store (ty := 3) rfl ?_); refine ko_put (u := .int .i64 _) rfl rfl (by rfl) (by rfl) (by rfl) (by repeat (first | exact VarAt.head | apply VarAt.tail)) (by kernel_rfl) (Nat.le_of_ble_eq_true rfl) (by simp only [Value.cells, List.take_succ_cons, List.take_zero, List.drop_succ_cons, List.drop_zero, List.cons_append, List.nil_append, List.length_cons, List.length_nil, Nat.reduceAdd, List.append_nil, List.drop_nil, List.take_nil]; rfl) (by repeat (first | exact VarAt.head | apply VarAt.tail)) (by simp [apartR, Value.cells]) (by kernel_rfl) (by simp [Value.cells, Value.oneCell']) ?_; (try simp only [Value.cells, List.length_cons, List.length_nil, Nat.reduceAdd]))
      | ((with_reducible refine kg_store (ty := 4) rfl ?_); refine ko_put (u := .bool _) rfl rfl (by rfl) (by rfl) (by rfl) (by repeat (first | exact VarAt.head | apply VarAt.tail)) (by kernel_rfl) (Nat.le_of_ble_eq_true rfl) (by simp only [Value.cells, List.take_succ_cons, List.take_zero, List.drop_succ_cons, List.drop_zero, List.cons_append, List.nil_append, List.length_cons, List.length_nil, Nat.reduceAdd, List.append_nil, List.drop_nil, List.take_nil]; rfl) (by repeat (first | exact VarAt.head | apply VarAt.tail)) (by simp [apartR, Value.cells]) (by kernel_rfl) (by simp [Value.cells, Value.oneCell']) ?_; (try simp only [Value.cells, List.length_cons, List.length_nil, Nat.reduceAdd]))
      | ((with_reducible refine kg_store (ty := 28) rfl ?_); refine ko_put (u := .agg (List.toArray _)) rfl rfl (by rfl) (by rfl) (by rfl) (by repeat (first | exact VarAt.head | apply VarAt.tail)) (by kernel_rfl) (Nat.le_of_ble_eq_true rfl) (by simp only [Value.cells, List.take_succ_cons, List.take_zero, List.drop_succ_cons, List.drop_zero, List.cons_append, List.nil_append, List.length_cons, List.length_nil, Nat.reduceAdd, List.append_nil, List.drop_nil, List.take_nil]; rfl) (by repeat (first | exact VarAt.head | apply VarAt.tail)) (by simp [apartR, Value.cells]) (by kernel_rfl) (by simp [Value.cells, Value.oneCell']) ?_; (try simp only [Value.cells, List.length_cons, List.length_nil, Nat.reduceAdd]))
      | ((with_reducible refine kg_dst (N := 11) rfl ?_); refine ko_var rfl (by rfl) (fun W K hK => by go_simp; exact hK.out) ?_; intro g11; (try simp only [Act.put, lsA, lsZ, lsS, Nat.reduceAdd]))
      | ((with_reducible refine kg_store (ty := 104) rfl ?_); refine ko_put (u := .agg (List.toArray _)) rfl rfl (by rfl) (by rfl) (by rfl) (by repeat (first | exact VarAt.head | apply VarAt.tail)) (by kernel_rfl) (Nat.le_of_ble_eq_true rfl) (by simp only [Value.cells, List.take_succ_cons, List.take_zero, List.drop_succ_cons, List.drop_zero, List.cons_append, List.nil_append, List.length_cons, List.length_nil, Nat.reduceAdd, List.append_nil, List.drop_nil, List.take_nil]; rfl) (by repeat (first | exact VarAt.head | apply VarAt.tail)) (by simp [apartR, Value.cells]) (by kernel_rfl) (by simp [Value.cells, Value.oneCell']) ?_; (try simp only [Value.cells, List.length_cons, List.length_nil, Nat.reduceAdd]))
      | (refine ko_pure rfl (by rfl) (fun W K hK => by go_simp; exact hK.out) ?_; (try simp only [Act.put, lsA, lsZ, lsS, Nat.reduceAdd]))
      | (refine ko_off (by rfl) ?_; (try simp only [Act.put, lsA, lsZ, lsS, Nat.reduceAdd])))
    refine ko_end ?_
    intro w1 H1
    clear HR H
    have H := H1
    clear H1
    (try simp only [List.map_cons, List.map_nil, cv, List.cons_append, List.nil_append] at H)
    go_wp2
    refine ro_start (Frs _ _ _ _ _) [9] [0, 1, 2, 3, 4, 5, 6, 7, 8, 9] 10 (by kernel_rfl) (by rfl) (by simp only [pickR, List.getElem?_cons_succ, List.getElem?_cons_zero]; rfl) (by rfl) (H.drewN 1) (fun HS => ?_)
    have H1 : Fr _ _ _ _ _ _ := HS
    clear HS H
    have H := H1
    clear H1
    repeat (first
      | ((with_reducible refine rz_call (f := 19) rfl ?_); refine ro_call 19 _ rfl (by kernel_rfl) (by kernel_rfl) (by rfl) Tryz.func19 (by kernel_rfl) rfl (by simp only [List.map_toArray, List.map_cons, List.map_nil]; rfl) ?_; (refine (HSN.out _ H.now).mono ?_); rintro e w' ⟨A1, c1, rfl, ho, hb⟩; have HT := Tr_row H.avs H.chg.size ho; have H2 := H.call2 hb HT; have H1 := H.call hb; refine ⟨_, rfl, H1, fun _ => ?_⟩; clear hb ho HT H1 H; have H := H2; clear H2; (try simp only [Act.put, lsA, lsZ, lsS, Nat.reduceAdd]))
      | ((with_reducible refine rz_load (ty := 23) rfl ?_); refine ro_sub H (m := 12) rfl (by kernel_rfl) (fun _ _ _ h => h) (by rfl) (by rfl) (by repeat (first | exact At.head | apply At.tail)) Tryz.underlying23 rfl (by kernel_rfl) (by simp only [List.toList_toArray, List.drop_succ_cons, List.drop_zero, List.take_succ_cons, List.take_zero]; rfl) (by rfl) ?_; (try simp only [Act.put, lsA, lsZ, lsS, Nat.reduceAdd]))
      | ((with_reducible refine rz_load (ty := 30) rfl ?_); refine ro_sub H (m := 11) rfl (by kernel_rfl) (fun _ _ _ h => h) (by rfl) (by rfl) (by repeat (first | exact At.head | apply At.tail)) Tryz.underlying30 rfl (by kernel_rfl) (by simp only [List.toList_toArray, List.drop_succ_cons, List.drop_zero, List.take_succ_cons, List.take_zero]; rfl) (by rfl) ?_; (try simp only [Act.put, lsA, lsZ, lsS, Nat.reduceAdd]))
      | ((with_reducible refine rz_store (ty := 30) rfl ?_); refine ro_set H (u := .agg (List.toArray _)) rfl rfl (by kernel_rfl) (by kernel_rfl) (by rfl) (by rfl) (by rfl) (by repeat (first | exact At.head | apply At.tail)) (Nat.le_of_ble_eq_true rfl) (by simp only [Value.cells, List.take_succ_cons, List.take_zero, List.drop_succ_cons, List.drop_zero, List.cons_append, List.nil_append, List.size_toArray, List.length_cons, List.length_nil, Nat.reduceAdd, List.append_nil, List.drop_nil, List.take_nil, List.toList_toArray]; rfl) (by kernel_rfl) (by simp [Value.cells, Value.oneCell']) ?_; intro w1 H1; replace H := H1; clear H1; (try simp only [Act.put, lsA, lsZ, lsS, Nat.reduceAdd]))
      | (refine ro_off (by kernel_rfl) (fun _ _ _ h => h) (by rfl) ?_; (try simp only [Act.put, lsA, lsZ, lsS, Nat.reduceAdd]))
      | (refine ro_pure (by kernel_rfl) (fun _ _ _ h => h) (by rfl) (fun W K hK => by go_simp; exact hK.out) ?_; (try simp only [Act.put, lsA, lsZ, lsS, Nat.reduceAdd])))
    refine ro_done (by kernel_rfl) ?_
    go_wp2
    refine ko_region1 H (by simp only [List.length_cons, List.length_nil, Nat.reduceAdd]; rfl) (g := g) (by repeat (first | exact Take.head | apply Take.tail)) (by kernel_rfl) (by as_aux_lemma => kernel_rfl) (fun HR => ?_)
    repeat (first
      | ((with_reducible refine kg_call (f := 51) rfl ?_); refine ko_call 51 _ rfl (by rfl) Tryz.func51 (by kernel_rfl) rfl (by kernel_rfl) (by simp only [List.map_toArray, List.map_cons, List.map_nil]; rfl) (fun W hC hd => KB1.out W) ?_; (try simp only [Act.put, lsA, lsZ, lsS, Nat.reduceAdd]))
      | ((with_reducible refine kg_load (ty := 23) rfl ?_); refine ko_sub HR (n := 12) rfl (by rfl) (by rfl) (by repeat (first | exact At.head | apply At.tail)) Tryz.underlying23 rfl (by kernel_rfl) (by simp only [List.toList_toArray, List.drop_succ_cons, List.drop_zero, List.take_succ_cons, List.take_zero]; rfl) (by rfl) ?_; (try simp only [Act.put, lsA, lsZ, lsS, Nat.reduceAdd]))
      | ((with_reducible refine kg_load (ty := 30) rfl ?_); refine ko_sub HR (n := 11) rfl (by rfl) (by rfl) (by repeat (first | exact At.head | apply At.tail)) Tryz.underlying30 rfl (by kernel_rfl) (by simp only [List.toList_toArray, List.drop_succ_cons, List.drop_zero, List.take_succ_cons, List.take_zero]; rfl) (by rfl) ?_; (try simp only [Act.put, lsA, lsZ, lsS, Nat.reduceAdd]))
      | ((with_reducible refine kg_load (ty := 3) rfl ?_); refine ko_get HR rfl (by rfl) (by rfl) (by repeat (first | exact At.head | apply At.tail)) Tryz.underlying3 rfl (by simp only [List.getElem?_toArray, List.getElem?_cons_succ, List.getElem?_cons_zero]; rfl) ?_; (try simp only [Act.put, lsA, lsZ, lsS, Nat.reduceAdd]))
      | ((with_reducible refine kg_load (ty := 4) rfl ?_); refine ko_get HR rfl (by rfl) (by rfl) (by repeat (first | exact At.head | apply At.tail)) Tryz.underlying4 rfl (by simp only [List.getElem?_toArray, List.getElem?_cons_succ, List.getElem?_cons_zero]; rfl) ?_; (try simp only [Act.put, lsA, lsZ, lsS, Nat.reduceAdd]))
      | ((with_reducible refine kg_dst (N := 10) rfl ?_); refine ko_var rfl (by rfl) (fun W K hK => by go_simp; exact hK.out) ?_; intro g10; (try simp only [Act.put, lsA, lsZ, lsS, Nat.reduceAdd]))
      | ((with_reducible refine kg_store (ty := 101) rfl ?_); refine ko_put (u := .agg (List.toArray _)) rfl rfl (by rfl) (by rfl) (by rfl) (by repeat (first | exact VarAt.head | apply VarAt.tail)) (by kernel_rfl) (Nat.le_of_ble_eq_true rfl) (by simp only [Value.cells, List.take_succ_cons, List.take_zero, List.drop_succ_cons, List.drop_zero, List.cons_append, List.nil_append, List.length_cons, List.length_nil, Nat.reduceAdd, List.append_nil, List.drop_nil, List.take_nil]; rfl) (by repeat (first | exact VarAt.head | apply VarAt.tail)) (by simp [apartR, Value.cells]) (by kernel_rfl) (by simp [Value.cells, Value.oneCell']) ?_; (try simp only [Value.cells, List.length_cons, List.length_nil, Nat.reduceAdd]))
      | ((with_reducible refine kg_store (ty := 30) rfl ?_); refine ko_put (u := .agg (List.toArray _)) rfl rfl (by rfl) (by rfl) (by rfl) (by repeat (first | exact VarAt.head | apply VarAt.tail)) (by kernel_rfl) (Nat.le_of_ble_eq_true rfl) (by simp only [Value.cells, List.take_succ_cons, List.take_zero, List.drop_succ_cons, List.drop_zero, List.cons_append, List.nil_append, List.length_cons, List.length_nil, Nat.reduceAdd, List.append_nil, List.drop_nil, List.take_nil]; rfl) (by repeat (first | exact VarAt.head | apply VarAt.tail)) (by simp [apartR, Value.cells]) (by kernel_rfl) (by simp [Value.cells, Value.oneCell']) ?_; (try simp only [Value.cells, List.length_cons, List.length_nil, Nat.reduceAdd]))
      | ((with_reducible refine kg_load (ty := 28) rfl ?_); refine ko_sub HR (n := 2) rfl (by rfl) (by rfl) (by repeat (first | exact At.head | apply At.tail)) Tryz.underlying28 rfl (by kernel_rfl) (by simp only [List.toList_toArray, List.drop_succ_cons, List.drop_zero, List.take_succ_cons, List.take_zero]; rfl) (by rfl) ?_; (try simp only [Act.put, lsA, lsZ, lsS, Nat.reduceAdd]))
      | ((with_reducible refine kg_store (ty := 3) rfl ?_); refine ko_put (u := .int .i64 _) rfl rfl (by rfl) (by rfl) (by rfl) (by repeat (first | exact VarAt.head | apply VarAt.tail)) (by kernel_rfl) (Nat.le_of_ble_eq_true rfl) (by simp only [Value.cells, List.take_succ_cons, List.take_zero, List.drop_succ_cons, List.drop_zero, List.cons_append, List.nil_append, List.length_cons, List.length_nil, Nat.reduceAdd, List.append_nil, List.drop_nil, List.take_nil]; rfl) (by repeat (first | exact VarAt.head | apply VarAt.tail)) (by simp [apartR, Value.cells]) (by kernel_rfl) (by simp [Value.cells, Value.oneCell']) ?_; (try simp only [Value.cells, List.length_cons, List.length_nil, Nat.reduceAdd]))
      | ((with_reducible refine kg_store (ty := 4) rfl ?_); refine ko_put (u := .bool _) rfl rfl (by rfl) (by rfl) (by rfl) (by repeat (first | exact VarAt.head | apply VarAt.tail)) (by kernel_rfl) (Nat.le_of_ble_eq_true rfl) (by simp only [Value.cells, List.take_succ_cons, List.take_zero, List.drop_succ_cons, List.drop_zero, List.cons_append, List.nil_append, List.length_cons, List.length_nil, Nat.reduceAdd, List.append_nil, List.drop_nil, List.take_nil]; rfl) (by repeat (first | exact VarAt.head | apply VarAt.tail)) (by simp [apartR, Value.cells]) (by kernel_rfl) (by simp [Value.cells, Value.oneCell']) ?_; (try simp only [Value.cells, List.length_cons, List.length_nil, Nat.reduceAdd]))
      | ((with_reducible refine kg_store (ty := 28) rfl ?_); refine ko_put (u := .agg (List.toArray _)) rfl rfl (by rfl) (by rfl) (by rfl) (by repeat (first | exact VarAt.head | apply VarAt.tail)) (by kernel_rfl) (Nat.le_of_ble_eq_true rfl) (by simp only [Value.cells, List.take_succ_cons, List.take_zero, List.drop_succ_cons, List.drop_zero, List.cons_append, List.nil_append, List.length_cons, List.length_nil, Nat.reduceAdd, List.append_nil, List.drop_nil, List.take_nil]; rfl) (by repeat (first | exact VarAt.head | apply VarAt.tail)) (by simp [apartR, Value.cells]) (by kernel_rfl) (by simp [Value.cells, Value.oneCell']) ?_; (try simp only [Value.cells, List.length_cons, List.length_nil, Nat.reduceAdd]))
      | ((with_reducible refine kg_dst (N := 11) rfl ?_); refine ko_var rfl (by rfl) (fun W K hK => by go_simp; exact hK.out) ?_; intro g11; (try simp only [Act.put, lsA, lsZ, lsS, Nat.reduceAdd]))
      | ((with_reducible refine kg_store (ty := 104) rfl ?_); refine ko_put (u := .agg (List.toArray _)) rfl rfl (by rfl) (by rfl) (by rfl) (by repeat (first | exact VarAt.head | apply VarAt.tail)) (by kernel_rfl) (Nat.le_of_ble_eq_true rfl) (by simp only [Value.cells, List.take_succ_cons, List.take_zero, List.drop_succ_cons, List.drop_zero, List.cons_append, List.nil_append, List.length_cons, List.length_nil, Nat.reduceAdd, List.append_nil, List.drop_nil, List.take_nil]; rfl) (by repeat (first | exact VarAt.head | apply VarAt.tail)) (by simp [apartR, Value.cells]) (by kernel_rfl) (by simp [Value.cells, Value.oneCell']) ?_; (try simp only [Value.cells, List.length_cons, List.length_nil, Nat.reduceAdd]))
      | (refine ko_pure rfl (by rfl) (fun W K hK => by go_simp; exact hK.out) ?_; (try simp only [Act.put, lsA, lsZ, lsS, Nat.reduceAdd]))
      | (refine ko_off (by rfl) ?_; (try simp only [Act.put, lsA, lsZ, lsS, Nat.reduceAdd])))
    refine ko_end ?_
    intro w1 H1
    clear HR H
    have H := H1
    clear H1
    (try simp only [List.map_cons, List.map_nil, cv, List.cons_append, List.nil_append] at H)
    go_wp2
    refine ko_region0 H (by kernel_rfl) (by as_aux_lemma => kernel_rfl) (fun HR => ?_)
    repeat (first
      | ((with_reducible refine kg_call (f := 68) rfl ?_); refine ko_call 68 _ rfl (by rfl) Tryz.func68 (by kernel_rfl) rfl (by kernel_rfl) (by simp only [List.map_toArray, List.map_cons, List.map_nil]; rfl) (fun W hC hd => KMost.out W A1 c1 ((HR W hC).blk (g, _) (by repeat (first | exact List.mem_cons_self | apply List.mem_cons_of_mem)))) ?_; (try simp only [Act.put, lsA, lsZ, lsS, Nat.reduceAdd]))
      | ((with_reducible refine kg_call (f := 67) rfl ?_); refine ko_call 67 _ rfl (by rfl) Tryz.func67 (by kernel_rfl) rfl (by kernel_rfl) (by simp only [List.map_toArray, List.map_cons, List.map_nil]; rfl) (fun W hC hd => KMend.out W) ?_; (try simp only [Act.put, lsA, lsZ, lsS, Nat.reduceAdd]))
      | ((with_reducible refine kg_load (ty := 23) rfl ?_); refine ko_sub HR (n := 12) rfl (by rfl) (by rfl) (by repeat (first | exact At.head | apply At.tail)) Tryz.underlying23 rfl (by kernel_rfl) (by simp only [List.toList_toArray, List.drop_succ_cons, List.drop_zero, List.take_succ_cons, List.take_zero]; rfl) (by rfl) ?_; (try simp only [Act.put, lsA, lsZ, lsS, Nat.reduceAdd]))
      | ((with_reducible refine kg_load (ty := 30) rfl ?_); refine ko_sub HR (n := 11) rfl (by rfl) (by rfl) (by repeat (first | exact At.head | apply At.tail)) Tryz.underlying30 rfl (by kernel_rfl) (by simp only [List.toList_toArray, List.drop_succ_cons, List.drop_zero, List.take_succ_cons, List.take_zero]; rfl) (by rfl) ?_; (try simp only [Act.put, lsA, lsZ, lsS, Nat.reduceAdd]))
      | ((with_reducible refine kg_load (ty := 3) rfl ?_); refine ko_get HR rfl (by rfl) (by rfl) (by repeat (first | exact At.head | apply At.tail)) Tryz.underlying3 rfl (by simp only [List.getElem?_toArray, List.getElem?_cons_succ, List.getElem?_cons_zero]; rfl) ?_; (try simp only [Act.put, lsA, lsZ, lsS, Nat.reduceAdd]))
      | ((with_reducible refine kg_load (ty := 4) rfl ?_); refine ko_get HR rfl (by rfl) (by rfl) (by repeat (first | exact At.head | apply At.tail)) Tryz.underlying4 rfl (by simp only [List.getElem?_toArray, List.getElem?_cons_succ, List.getElem?_cons_zero]; rfl) ?_; (try simp only [Act.put, lsA, lsZ, lsS, Nat.reduceAdd]))
      | ((with_reducible refine kg_dst (N := 10) rfl ?_); refine ko_var rfl (by rfl) (fun W K hK => by go_simp; exact hK.out) ?_; intro g10; (try simp only [Act.put, lsA, lsZ, lsS, Nat.reduceAdd]))
      | ((with_reducible refine kg_store (ty := 101) rfl ?_); refine ko_put (u := .agg (List.toArray _)) rfl rfl (by rfl) (by rfl) (by rfl) (by repeat (first | exact VarAt.head | apply VarAt.tail)) (by kernel_rfl) (Nat.le_of_ble_eq_true rfl) (by simp only [Value.cells, List.take_succ_cons, List.take_zero, List.drop_succ_cons, List.drop_zero, List.cons_append, List.nil_append, List.length_cons, List.length_nil, Nat.reduceAdd, List.append_nil, List.drop_nil, List.take_nil]; rfl) (by repeat (first | exact VarAt.head | apply VarAt.tail)) (by simp [apartR, Value.cells]) (by kernel_rfl) (by simp [Value.cells, Value.oneCell']) ?_; (try simp only [Value.cells, List.length_cons, List.length_nil, Nat.reduceAdd]))
      | ((with_reducible refine kg_store (ty := 30) rfl ?_); refine ko_put (u := .agg (List.toArray _)) rfl rfl (by rfl) (by rfl) (by rfl) (by repeat (first | exact VarAt.head | apply VarAt.tail)) (by kernel_rfl) (Nat.le_of_ble_eq_true rfl) (by simp only [Value.cells, List.take_succ_cons, List.take_zero, List.drop_succ_cons, List.drop_zero, List.cons_append, List.nil_append, List.length_cons, List.length_nil, Nat.reduceAdd, List.append_nil, List.drop_nil, List.take_nil]; rfl) (by repeat (first | exact VarAt.head | apply VarAt.tail)) (by simp [apartR, Value.cells]) (by kernel_rfl) (by simp [Value.cells, Value.oneCell']) ?_; (try simp only [Value.cells, List.length_cons, List.length_nil, Nat.reduceAdd]))
      | ((with_reducible refine kg_load (ty := 28) rfl ?_); refine ko_sub HR (n := 2) rfl (by rfl) (by rfl) (by repeat (first | exact At.head | apply At.tail)) Tryz.underlying28 rfl (by kernel_rfl) (by simp only [List.toList_toArray, List.drop_succ_cons, List.drop_zero, List.take_succ_cons, List.take_zero]; rfl) (by rfl) ?_; (try simp only [Act.put, lsA, lsZ, lsS, Nat.reduceAdd]))
      | ((with_reducible refine kg_store (ty := 3) rfl ?_); refine ko_put (u := .int .i64 _) rfl rfl (by rfl) (by rfl) (by rfl) (by repeat (first | exact VarAt.head | apply VarAt.tail)) (by kernel_rfl) (Nat.le_of_ble_eq_true rfl) (by simp only [Value.cells, List.take_succ_cons, List.take_zero, List.drop_succ_cons, List.drop_zero, List.cons_append, List.nil_append, List.length_cons, List.length_nil, Nat.reduceAdd, List.append_nil, List.drop_nil, List.take_nil]; rfl) (by repeat (first | exact VarAt.head | apply VarAt.tail)) (by simp [apartR, Value.cells]) (by kernel_rfl) (by simp [Value.cells, Value.oneCell']) ?_; (try simp only [Value.cells, List.length_cons, List.length_nil, Nat.reduceAdd]))
      | ((with_reducible refine kg_store (ty := 4) rfl ?_); refine ko_put (u := .bool _) rfl rfl (by rfl) (by rfl) (by rfl) (by repeat (first | exact VarAt.head | apply VarAt.tail)) (by kernel_rfl) (Nat.le_of_ble_eq_true rfl) (by simp only [Value.cells, List.take_succ_cons, List.take_zero, List.drop_succ_cons, List.drop_zero, List.cons_append, List.nil_append, List.length_cons, List.length_nil, Nat.reduceAdd, List.append_nil, List.drop_nil, List.take_nil]; rfl) (by repeat (first | exact VarAt.head | apply VarAt.tail)) (by simp [apartR, Value.cells]) (by kernel_rfl) (by simp [Value.cells, Value.oneCell']) ?_; (try simp only [Value.cells, List.length_cons, List.length_nil, Nat.reduceAdd]))
      | ((with_reducible refine kg_store (ty := 28) rfl ?_); refine ko_put (u := .agg (List.toArray _)) rfl rfl (by rfl) (by rfl) (by rfl) (by repeat (first | exact VarAt.head | apply VarAt.tail)) (by kernel_rfl) (Nat.le_of_ble_eq_true rfl) (by simp only [Value.cells, List.take_succ_cons, List.take_zero, List.drop_succ_cons, List.drop_zero, List.cons_append, List.nil_append, List.length_cons, List.length_nil, Nat.reduceAdd, List.append_nil, List.drop_nil, List.take_nil]; rfl) (by repeat (first | exact VarAt.head | apply VarAt.tail)) (by simp [apartR, Value.cells]) (by kernel_rfl) (by simp [Value.cells, Value.oneCell']) ?_; (try simp only [Value.cells, List.length_cons, List.length_nil, Nat.reduceAdd]))
      | ((with_reducible refine kg_dst (N := 11) rfl ?_); refine ko_var rfl (by rfl) (fun W K hK => by go_simp; exact hK.out) ?_; intro g11; (try simp only [Act.put, lsA, lsZ, lsS, Nat.reduceAdd]))
      | ((with_reducible refine kg_store (ty := 104) rfl ?_); refine ko_put (u := .agg (List.toArray _)) rfl rfl (by rfl) (by rfl) (by rfl) (by repeat (first | exact VarAt.head | apply VarAt.tail)) (by kernel_rfl) (Nat.le_of_ble_eq_true rfl) (by simp only [Value.cells, List.take_succ_cons, List.take_zero, List.drop_succ_cons, List.drop_zero, List.cons_append, List.nil_append, List.length_cons, List.length_nil, Nat.reduceAdd, List.append_nil, List.drop_nil, List.take_nil]; rfl) (by repeat (first | exact VarAt.head | apply VarAt.tail)) (by simp [apartR, Value.cells]) (by kernel_rfl) (by simp [Value.cells, Value.oneCell']) ?_; (try simp only [Value.cells, List.length_cons, List.length_nil, Nat.reduceAdd]))
      | (refine ko_pure rfl (by rfl) (fun W K hK => by go_simp; exact hK.out) ?_; (try simp only [Act.put, lsA, lsZ, lsS, Nat.reduceAdd]))
      | (refine ko_off (by rfl) ?_; (try simp only [Act.put, lsA, lsZ, lsS, Nat.reduceAdd])))
    refine ko_end ?_
    intro w1 H1
    clear HR H
    have H := H1
    clear H1
    (try simp only [List.map_cons, List.map_nil, cv, List.cons_append, List.nil_append] at H)
    cases m3
    all_goals
      cases hlt : decide (ct < time)
      all_goals
        go_wp2_with (first
          | (go_at_call 69; (with_reducible refine (KTick.out _).mono ?_); rintro e w' ⟨rfl, hb⟩; have H1 := H.call hb; clear hb; replace H := H1; clear H1)
          | (go_at_call 52; (with_reducible refine (Add2 (H.of At.head)).mono ?_); rintro e w' ⟨rfl, hb⟩; have H1 := H.call hb; clear hb; replace H := H1; clear H1)
          | (go_at_call 51; (with_reducible refine (KB2.out _).mono ?_); rintro e w' ⟨rfl, hb⟩; have H1 := H.call hb; clear hb; replace H := H1; clear H1)
          | ((with_reducible refine gate_dst (N := 5) rfl ?_); refine fr_box H rfl rfl rfl ?_; intro g5 w5 H1; replace H := H1; clear H1)
          | ((with_reducible refine gate_dst (N := 18) rfl ?_); refine fr_sub H (n := 11) rfl rfl rfl (by repeat (first | exact At.head | apply At.tail)) Tryz.underlying30 rfl (by kernel_rfl) (by simp only [List.toList_toArray, List.drop_succ_cons, List.drop_zero, List.take_succ_cons, List.take_zero]; rfl) (by rfl) ?_)
          | ((with_reducible refine gate_dst (N := 6) rfl ?_); refine fr_new H (N := 6) rfl rfl (cs := #[.int .i64 0, .int .i64 0, .int .i64 0, .bool false, .int .i64 0, .int .i64 0, .bool false, .slice none 0 0, .int .i64 0, .int .i64 0, .int .i64 0]) (t := 30) ?hr ?_; (case hr => first | (go_simp; done) | (go_simp; rfl)); intro g6 w6 H1; replace H := H1; clear H1)
          | ((with_reducible refine gate_store (t := 30) (p := 6) rfl ?_); refine fr_put H rfl rfl rfl rfl rfl (by repeat (first | exact At.head | apply At.tail)) (by rfl) (by kernel_rfl) (by simp [Value.oneCell']) ?_; intro w6_ H1; replace H := H1; clear H1)
          | ((with_reducible refine gate_dst (N := 20) rfl ?_); refine fr_sub H (n := 2) rfl rfl rfl (by repeat (first | exact At.head | apply At.tail)) Tryz.underlying25 rfl (by kernel_rfl) (by simp only [List.toList_toArray, List.drop_succ_cons, List.drop_zero, List.take_succ_cons, List.take_zero]; rfl) (by rfl) ?_)
          | ((with_reducible refine gate_dst (N := 24) rfl ?_); refine fr_get H rfl rfl rfl (by repeat (first | exact At.head | apply At.tail)) Tryz.underlying3 rfl (by simp only [List.getElem?_toArray, List.getElem?_cons_succ, List.getElem?_cons_zero]; rfl) ?_)
          | ((with_reducible refine gate_dst (N := 26) rfl ?_); refine fr_rowv H (N := 26) rfl rfl (fun K hK => by go_simp; exact hK.out) ?_; intro x26 w26 H1; replace H := H1; clear H1)
          | ((with_reducible refine gate_dst (N := 107) rfl ?_); refine fr_sub H (n := 2) rfl rfl rfl (by repeat (first | exact At.head | apply At.tail)) Tryz.underlying104 rfl (by kernel_rfl) (by simp only [List.toList_toArray, List.drop_succ_cons, List.drop_zero, List.take_succ_cons, List.take_zero]; rfl) (by rfl) ?_)
          | ((with_reducible refine gate_dst (N := 109) rfl ?_); refine fr_get H rfl rfl rfl (by repeat (first | exact At.head | apply At.tail)) Tryz.underlying3 rfl (by simp only [List.getElem?_toArray, List.getElem?_cons_succ, List.getElem?_cons_zero]; rfl) ?_)
          | ((with_reducible refine gate_dst (N := 111) rfl ?_); refine fr_pure (v := .agg #[_, _]) rfl rfl (fun W K hK => by go_simp; exact hK.out) ?_)
          | ((with_reducible refine gate_store (t := 28) (p := 114) rfl ?_); refine fr_set H (u := .agg (List.toArray _)) rfl rfl rfl rfl rfl (by repeat (first | exact At.head | apply At.tail)) (Nat.le_of_ble_eq_true rfl) (by simp only [Value.cells, List.take_succ_cons, List.take_zero, List.drop_succ_cons, List.drop_zero, List.cons_append, List.nil_append, List.size_toArray, List.length_cons, List.length_nil, Nat.reduceAdd, List.append_nil, List.drop_nil, List.take_nil, List.toList_toArray]; rfl) (by kernel_rfl) (by simp [Value.cells, Value.oneCell']) ?_; intro w114_ H1; replace H := H1; clear H1)
          | ((with_reducible refine gate_dst (N := 118) rfl ?_); (try (refine gate_guard (by rfl) ?_; dsimp only)); refine fr_get H rfl rfl rfl (by repeat (first | exact At.head | apply At.tail)) Tryz.underlying3 rfl (by simp only [List.getElem?_toArray, List.getElem?_cons_succ, List.getElem?_cons_zero]; rfl) ?_)
          | ((with_reducible refine gate_dst (N := 120) rfl ?_); (try (refine gate_guard (by rfl) ?_; dsimp only)); refine fr_get H rfl rfl rfl (by repeat (first | exact At.head | apply At.tail)) Tryz.underlying3 rfl (by simp only [List.getElem?_toArray, List.getElem?_cons_succ, List.getElem?_cons_zero]; rfl) ?_)
          | ((with_reducible refine gate_dst (N := 128) rfl ?_); refine fr_get H rfl rfl rfl (by repeat (first | exact At.head | apply At.tail)) Tryz.underlying3 rfl (by simp only [List.getElem?_toArray, List.getElem?_cons_succ, List.getElem?_cons_zero]; rfl) ?_)
          | ((with_reducible refine gate_dst (N := 129) rfl ?_); refine fr_rowv H (N := 129) rfl rfl (fun K hK => by go_simp; exact hK.out) ?_; intro x129 w129 H1; replace H := H1; clear H1)
          | ((with_reducible refine gate_store (t := 3) (p := 134) rfl ?_); refine fr_set H (u := .int .i64 _) rfl rfl rfl rfl rfl (by repeat (first | exact At.head | apply At.tail)) (Nat.le_of_ble_eq_true rfl) (by simp only [Value.cells, List.take_succ_cons, List.take_zero, List.drop_succ_cons, List.drop_zero, List.cons_append, List.nil_append, List.size_toArray, List.length_cons, List.length_nil, Nat.reduceAdd, List.append_nil, List.drop_nil, List.take_nil, List.toList_toArray]; rfl) (by kernel_rfl) (by simp [Value.cells, Value.oneCell']) ?_; intro w134_ H1; replace H := H1; clear H1)
          | fail)
        all_goals
          refine bodyPost_end (results_none rfl _ _ _) rfl ?_
          first
            | exact ⟨rfl, A1, c1, H.of (by repeat (first | exact At.head | apply At.tail)), H.now.2, H.chg⟩
            | exact ⟨A1, c1, rfl, H.of (by repeat (first | exact At.head | apply At.tail)), H.now.2, H.chg⟩
end Go.Proofs.YtbmfgcekglgliaaGreat.G
