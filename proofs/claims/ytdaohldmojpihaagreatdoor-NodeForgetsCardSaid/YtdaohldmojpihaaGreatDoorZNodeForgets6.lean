/- Texts Gm, Gn, Sk, Gq, Gi, Gw, Gb2, Nv, in one file, without what is not needed here. -/
import Derived.Shelf.SlSortCmp.InsertionK
import Derived.Ground.SlsfProg
import Derived.Test.YtdaohldmojpihaaGreatDoorProg
import Derived.Deep.DeepCutAuto
import Derived.Test.YtdaohldmojpihaaGreatDoorZNodeForgets5
namespace Go.Proofs.YtdaohldmojpihaaGreatDoor.G
open Go.RowKit Go.Proofs.YtdaohldmojpihaaGreatDoorW.PrintWords Go.Proofs.YtdaohldmojpihaaGreatDoorW.PrintLast Go.Proofs.YtdaohldmojpihaaGreatDoorW.PrintMore Go.Proofs.YtdaohldmojpihaaGreatDoorPl Go.Proofs.YtdaohldmojpihaaGreatDoorEm Go.Proofs.YtdaohldmojpihaaGreatDoorKr Go.Proofs.YtdaohldmojpihaaGreatDoorRz Go.Proofs.YtdaohldmojpihaaGreatDoor.X Go.Proofs.YtdaohldmojpihaaGreatDoorAy
set_option linter.unusedVariables false
set_option linter.unusedSimpArgs false
theorem Fr.below1 {A : Nat → Prop} {w W : World} {bl : List (Nat × Obj)} {p : World → Prop} {g : Nat} {o : Obj} (H : Fr (fun k => k = g) A w W bl p) (hg : w.heap[g]? = some o) (hb : W.heap[g]? = some o) : Below w.heap.size w W :=
  ⟨H.chg.os, H.chg.tape, H.chg.output, H.chg.size, fun k hk => by
    by_cases e : k = g
    · subst e; rw [hg, hb]
    · exact H.chg.block k hk e⟩
theorem Tr_true {D : Nat → Prop} {w : World} : Tr D w (fun _ => True) := fun _ _ => trivial
theorem Health_calls (p : Par) (s : St) (A : Option Addr) (c g : Nat) {tG : TypeId} (me : List Value) (w : World) (hg : w.heap[g]? = some (.cells (.int .i64 p.N :: .int .i64 p.F :: .int .i64 p.D :: .int .i64 p.Be :: .int .i64 p.Rho :: .int .i64 p.De :: .int .i64 p.Ji :: .int .i64 p.Eps :: .int .i64 p.Mu :: .int .i64 p.Ho :: .int .i64 p.Pu :: .int .i64 p.Se :: .int .i64 s.lo :: .int .i64 s.hi :: .int .i64 s.time :: .bool s.set :: .int .i64 s.held :: .int .i64 s.hops :: .bool s.good :: .slice A s.tab.length c :: .int .i64 s.st :: .int .i64 s.sn :: .int .i64 s.life :: me).toArray tG (0, 0))) : Calls Tryz.prog 169 #[.pointer (some ⟨g, 0, none⟩)] w fun e w' => e = .returned (.int .i64 (ofP p s.set s.good s.held s.hops)) ∧ Below w.heap.size w w' := by
  have H := Fr.start1 (M := fun k => k = g) (A := fun _ => False) (p := fun _ => True) (fun _ h => h.elim) hg rfl Tr_true
  have HG := Lib.hid hg
  clear hg
  obtain ⟨lo, hi, time, set, held, hops, good, tab, st, sn, life⟩ := s
  dsimp only at H HG ⊢
  obtain ⟨n, hn⟩ : ∃ n, tab.length = n := ⟨_, rfl⟩
  rw [hn] at H HG
  clear hn
  go_enter Tryz.func169, Tryz.ntmps169
  go_wp2
  refine ko_region0 H (by kernel_rfl) (by as_aux_lemma => kernel_rfl) (fun HR => ?_)
  repeat ((first
    | ((with_reducible refine kg_call (f := 80) rfl ?_); refine yC 80 Tryz.func80 (fun W hC hd => Of_calls p _ _ _ _ _ _ _ _ _ _ _ _ _ W) ?_)
    | ((with_reducible refine kg_load rfl ?_); refine yL HR ?_)
    | (refine yP ?_)
    | (refine yO ?_)); (try simp only [Act.put, lsA, lsZ, lsS, Nat.reduceAdd]))
  refine ko_end ?_
  intro w1 H1
  clear HR H
  have H := H1
  clear H1
  (try simp only [List.map_cons, List.map_nil, cv, List.cons_append, List.nil_append] at H)
  go_wp2
  go_ret
  exact ⟨rfl, Fr.below1 H HG.out (H.of (by repeat (first | exact At.head | apply At.tail)))⟩
def syncE (o : Int) : Int := if (o == 0) = true then 20 else 0
theorem synced_calls (p : Par) (s : St) (A : Option Addr) (c g : Nat) {tG : TypeId} (me : List Value) (w : World) (hg : w.heap[g]? = some (.cells (.int .i64 p.N :: .int .i64 p.F :: .int .i64 p.D :: .int .i64 p.Be :: .int .i64 p.Rho :: .int .i64 p.De :: .int .i64 p.Ji :: .int .i64 p.Eps :: .int .i64 p.Mu :: .int .i64 p.Ho :: .int .i64 p.Pu :: .int .i64 p.Se :: .int .i64 s.lo :: .int .i64 s.hi :: .int .i64 s.time :: .bool s.set :: .int .i64 s.held :: .int .i64 s.hops :: .bool s.good :: .slice A s.tab.length c :: .int .i64 s.st :: .int .i64 s.sn :: .int .i64 s.life :: me).toArray tG (0, 0))) : Calls Tryz.prog 134 #[.pointer (some ⟨g, 0, none⟩)] w fun e w' => e = .returned (.int .i64 (syncE (ofP p s.set s.good s.held s.hops))) ∧ Below w.heap.size w w' := by
  obtain ⟨o, ho⟩ : ∃ o, ofP p s.set s.good s.held s.hops = o := ⟨_, rfl⟩
  have HH := Lib.hid (fun h => ho ▸ Health_calls (tG := tG) p s A c g me w h)
  rw [ho]
  have HG := Lib.hid hg
  clear ho hg
  cases hb : (o == 0) with
  | true =>
    have HS := Lib.hid (show syncE o = 20 by unfold syncE; rw [hb]; rfl)
    go_enter Tryz.func134, Tryz.ntmps134
    go_wp2_with (first
      | (go_at_call 169; (with_reducible refine (HH.out HG.out).mono ?_); rintro e w' ⟨rfl, hb⟩; have HB := Lib.hid hb; clear hb)
      | fail)
    go_ret
    exact ⟨(by rw [HS.out]; try rfl), HB.out⟩
  | false =>
    have HS := Lib.hid (show syncE o = 0 by unfold syncE; rw [hb]; rfl)
    go_enter Tryz.func134, Tryz.ntmps134
    go_wp2_with (first
      | (go_at_call 169; (with_reducible refine (HH.out HG.out).mono ?_); rintro e w' ⟨rfl, hb⟩; have HB := Lib.hid hb; clear hb)
      | fail)
    go_ret
    exact ⟨(by rw [HS.out]; try rfl), HB.out⟩
theorem Pulse_calls (p : Par) (s : St) (A : Option Addr) (c g : Nat) {tG : TypeId} (me : List Value) (w : World) (hg : w.heap[g]? = some (.cells (.int .i64 p.N :: .int .i64 p.F :: .int .i64 p.D :: .int .i64 p.Be :: .int .i64 p.Rho :: .int .i64 p.De :: .int .i64 p.Ji :: .int .i64 p.Eps :: .int .i64 p.Mu :: .int .i64 p.Ho :: .int .i64 p.Pu :: .int .i64 p.Se :: .int .i64 s.lo :: .int .i64 s.hi :: .int .i64 s.time :: .bool s.set :: .int .i64 s.held :: .int .i64 s.hops :: .bool s.good :: .slice A s.tab.length c :: .int .i64 s.st :: .int .i64 s.sn :: .int .i64 s.life :: me).toArray tG (0, 0))) : Calls Tryz.prog 86 #[.pointer (some ⟨g, 0, none⟩)] w fun e w' => e = .returned (.tuple #[.int .i64 (if syncE (ofP p s.set s.good s.held s.hops) = 0 then numP p s.time else 0), .int .i64 (syncE (ofP p s.set s.good s.held s.hops))]) ∧ Below w.heap.size w w' := by
  have HY : Hid (∀ W, W.heap[g]? = some (.cells (.int .i64 p.N :: .int .i64 p.F :: .int .i64 p.D :: .int .i64 p.Be :: .int .i64 p.Rho :: .int .i64 p.De :: .int .i64 p.Ji :: .int .i64 p.Eps :: .int .i64 p.Mu :: .int .i64 p.Ho :: .int .i64 p.Pu :: .int .i64 p.Se :: .int .i64 s.lo :: .int .i64 s.hi :: .int .i64 s.time :: .bool s.set :: .int .i64 s.held :: .int .i64 s.hops :: .bool s.good :: .slice A s.tab.length c :: .int .i64 s.st :: .int .i64 s.sn :: .int .i64 s.life :: me).toArray tG (0, 0)) → Calls Tryz.prog 134 #[.pointer (some ⟨g, 0, none⟩)] W fun e w' => e = .returned (.int .i64 (syncE (ofP p s.set s.good s.held s.hops))) ∧ Below W.heap.size W w') := Lib.hid (fun W h => synced_calls (tG := tG) p s A c g me W h)
  have H := Fr.start1 (M := fun k => k = g) (A := fun _ => False) (p := fun _ => True) (fun _ h => h.elim) hg rfl Tr_true
  have HG := Lib.hid hg
  clear hg
  obtain ⟨lo, hi, time, set, held, hops, good, tab, st, sn, life⟩ := s
  dsimp only at H HG HY ⊢
  obtain ⟨n, hn⟩ : ∃ n, tab.length = n := ⟨_, rfl⟩
  obtain ⟨y, hy⟩ : ∃ y, syncE (ofP p set good held hops) = y := ⟨_, rfl⟩
  rw [hn] at H HG
  rw [hn, hy] at HY
  have HYE : y = 0 ∨ y = 20 := by rw [← hy]; unfold syncE; split; exact .inr rfl; exact .inl rfl
  rw [hy]
  clear hn hy
  rcases HYE with rfl | rfl
  · go_enter Tryz.func86, Tryz.ntmps86
    go_wp2_with (first
      | (go_at_call 134; (with_reducible refine (HY.out _ (H.of At.head)).mono ?_); rintro e w' ⟨rfl, hb⟩; have H1 := H.call hb; clear hb; replace H := H1; clear H1)
      | fail)
    refine ko_region0 H (by kernel_rfl) (by as_aux_lemma => kernel_rfl) (fun HR => ?_)
    repeat ((first
      | ((with_reducible refine kg_call (f := 135) rfl ?_); refine yC 135 Tryz.func135 (fun W hC hd => Number_calls p _ W) ?_)
      | ((with_reducible refine kg_load rfl ?_); refine yL HR ?_)
      | (refine yP ?_)
      | (refine yO ?_)); (try simp only [Act.put, lsA, lsZ, lsS, Nat.reduceAdd]))
    refine ko_end ?_
    intro w1 H1
    clear HR H
    have H := H1
    clear H1
    (try simp only [List.map_cons, List.map_nil, cv, List.cons_append, List.nil_append] at H)
    go_wp2
    go_ret2
    exact ⟨rfl, Fr.below1 H HG.out (H.of (by repeat (first | exact At.head | apply At.tail)))⟩
  · go_enter Tryz.func86, Tryz.ntmps86
    go_wp2_with (first
      | (go_at_call 134; (with_reducible refine (HY.out _ (H.of At.head)).mono ?_); rintro e w' ⟨rfl, hb⟩; have H1 := H.call hb; clear hb; replace H := H1; clear H1)
      | fail)
    go_ret2
    exact ⟨rfl, Fr.below1 H HG.out (H.of (by repeat (first | exact At.head | apply At.tail)))⟩
def mostS (p : Par) (s : St) : Int := sadd [s.hi, farP p s.held]
theorem most_calls (p : Par) (s : St) (A : Option Addr) (c g : Nat) {tG : TypeId} (me : List Value) (w : World) (hg : w.heap[g]? = some (.cells (.int .i64 p.N :: .int .i64 p.F :: .int .i64 p.D :: .int .i64 p.Be :: .int .i64 p.Rho :: .int .i64 p.De :: .int .i64 p.Ji :: .int .i64 p.Eps :: .int .i64 p.Mu :: .int .i64 p.Ho :: .int .i64 p.Pu :: .int .i64 p.Se :: .int .i64 s.lo :: .int .i64 s.hi :: .int .i64 s.time :: .bool s.set :: .int .i64 s.held :: .int .i64 s.hops :: .bool s.good :: .slice A s.tab.length c :: .int .i64 s.st :: .int .i64 s.sn :: .int .i64 s.life :: me).toArray tG (0, 0))) : Calls Tryz.prog 83 #[.pointer (some ⟨g, 0, none⟩)] w fun e w' => e = .returned (.int .i64 (mostS p s)) ∧ Below w.heap.size w w' := by
  unfold mostS
  have H := Fr.start1 (M := fun k => k = g) (A := fun _ => False) (p := fun _ => True) (fun _ h => h.elim) hg rfl Tr_true
  have HG := Lib.hid hg
  clear hg
  obtain ⟨lo, hi, time, set, held, hops, good, tab, st, sn, life⟩ := s
  dsimp only at H HG ⊢
  obtain ⟨n, hn⟩ : ∃ n, tab.length = n := ⟨_, rfl⟩
  rw [hn] at H HG
  clear hn
  go_enter Tryz.func83, Tryz.ntmps83
  go_wp2
  refine ko_region0 H (by kernel_rfl) (by as_aux_lemma => kernel_rfl) (fun HR => ?_)
  repeat ((first
    | ((with_reducible refine kg_call (f := 25) rfl ?_); refine yC 25 Tryz.func25 (fun W hC hd => Far_calls p _ W) ?_)
    | ((with_reducible refine kg_call (f := 40) rfl ?_); refine yC 40 Tryz.func40 (fun W hC hd => Add2 (depH.hd hd (by kernel_rfl))) ?_)
    | ((with_reducible refine kg_dst (N := 19) rfl ?_); refine yR ?_; intro x19)
    | ((with_reducible refine kg_load rfl ?_); refine yL HR ?_)
    | (refine yP ?_)
    | (refine yO ?_)); (try simp only [Act.put, lsA, lsZ, lsS, Nat.reduceAdd]))
  refine ko_end ?_
  intro w1 H1
  clear HR H
  have H := H1
  clear H1
  (try simp only [List.map_cons, List.map_nil, cv, List.cons_append, List.nil_append] at H)
  go_wp2
  go_ret
  exact ⟨rfl, Fr.below1 H HG.out (H.of (by repeat (first | exact At.head | apply At.tail)))⟩
end Go.Proofs.YtdaohldmojpihaaGreatDoor.G

namespace Go.Proofs.YtdaohldmojpihaaGreatDoor.G
open Go.RowKit Go.Proofs.YtdaohldmojpihaaGreatDoorW.PrintWords Go.Proofs.YtdaohldmojpihaaGreatDoorW.PrintLast Go.Proofs.YtdaohldmojpihaaGreatDoorW.PrintMore Go.Proofs.YtdaohldmojpihaaGreatDoorPl Go.Proofs.YtdaohldmojpihaaGreatDoorEm Go.Proofs.YtdaohldmojpihaaGreatDoorKr Go.Proofs.YtdaohldmojpihaaGreatDoorRz Go.Proofs.YtdaohldmojpihaaGreatDoor.X Go.Proofs.YtdaohldmojpihaaGreatDoorAy
set_option linter.unusedVariables false
set_option linter.unusedSimpArgs false
set_option maxRecDepth 100000 in
set_option maxHeartbeats 4000000 in
theorem Stamp_calls (p : Par) (s : St) (A : Option Addr) (c g : Nat) {tG : TypeId} (me : List Value) (w : World) (hg : w.heap[g]? = some (.cells (.int .i64 p.N :: .int .i64 p.F :: .int .i64 p.D :: .int .i64 p.Be :: .int .i64 p.Rho :: .int .i64 p.De :: .int .i64 p.Ji :: .int .i64 p.Eps :: .int .i64 p.Mu :: .int .i64 p.Ho :: .int .i64 p.Pu :: .int .i64 p.Se :: .int .i64 s.lo :: .int .i64 s.hi :: .int .i64 s.time :: .bool s.set :: .int .i64 s.held :: .int .i64 s.hops :: .bool s.good :: .slice A s.tab.length c :: .int .i64 s.st :: .int .i64 s.sn :: .int .i64 s.life :: me).toArray tG (0, 0))) :
    Calls Tryz.prog 87 #[.pointer (some ⟨g, 0, none⟩)] w fun e w' => e = .returned (.tuple #[.agg #[.int .i64 (tickP s.st s.sn s.time).1, .int .i64 (tickP s.st s.sn s.time).2], .int .i64 0]) ∧ w'.heap[g]? = some (.cells (.int .i64 p.N :: .int .i64 p.F :: .int .i64 p.D :: .int .i64 p.Be :: .int .i64 p.Rho :: .int .i64 p.De :: .int .i64 p.Ji :: .int .i64 p.Eps :: .int .i64 p.Mu :: .int .i64 p.Ho :: .int .i64 p.Pu :: .int .i64 p.Se :: .int .i64 s.lo :: .int .i64 s.hi :: .int .i64 s.time :: .bool s.set :: .int .i64 s.held :: .int .i64 s.hops :: .bool s.good :: .slice A s.tab.length c :: .int .i64 (tickP s.st s.sn s.time).1 :: .int .i64 (tickP s.st s.sn s.time).2 :: .int .i64 s.life :: me).toArray tG (0, 0)) ∧ Chg (fun k => k = g) w w' := by
  have H := Fr.start1 (M := fun k => k = g) (A := fun _ => False) (p := fun _ => True) (fun _ h => h.elim) hg rfl Tr_true
  clear hg
  obtain ⟨lo, hi, time, set, held, hops, good, tab, st, sn, life⟩ := s
  dsimp only at H ⊢
  obtain ⟨n, hn⟩ : ∃ n, tab.length = n := ⟨_, rfl⟩
  rw [hn] at H ⊢
  clear hn
  go_enter Tryz.func87, Tryz.ntmps87
  go_wp2_with (first
    | ((with_reducible refine gate_dst (N := 2) rfl ?_); refine nA #[.int .i64 0, .int .i64 0] 28 H ?_; intro g2 w2 H1; replace H := H1)
    | ((with_reducible refine gS rfl ?_); refine xS H ?_; intro w_ H1; replace H := H1)
    | ((with_reducible refine gL rfl ?_); refine xL H ?_)
    | fail)
  refine ro_start (Frs _ _ _ _ _) [17] [0, 1, 2, 3, 4, 5, 6, 7, 8, 9, 10, 11, 12, 13, 14, 15, 16, 17] 18 (by kernel_rfl) (by rfl) (by simp only [pickR, List.getElem?_cons_succ, List.getElem?_cons_zero]; rfl) (by rfl) (H.drewN 1) (fun HS => ?_)
  have H1 : Fr _ _ _ _ _ _ := HS
  clear HS H
  have H := H1
  clear H1
  repeat ((first
    | ((with_reducible refine rz_call (f := 84) rfl ?_); refine ro_call 84 _ rfl (by kernel_rfl) (by kernel_rfl) (by rfl) Tryz.func84 (by kernel_rfl) rfl (by simp only [List.map_toArray, List.map_cons, List.map_nil]; rfl) ?_; (refine (Tick_calls _ _ _ _).mono ?_); rintro e w' ⟨rfl, hb⟩; have H1 := H.call hb; refine ⟨_, rfl, H1, fun _ => ?_⟩; clear hb; replace H := H1; clear H1; (try simp only [Act.put, lsA, lsZ, lsS, Nat.reduceAdd]))
    | ((with_reducible refine rz_load rfl ?_); refine zL H ?_)
    | ((with_reducible refine rz_store rfl ?_); refine zS H ?_; intro w1 H1; replace H := H1)
    | (refine zO ?_)
    | (refine zP ?_)); (try simp only [Act.put, lsA, lsZ, lsS, Nat.reduceAdd]))
  refine ro_done (by kernel_rfl) ?_
  go_wp2_with (first
    | ((with_reducible refine gate_dst (N := 2) rfl ?_); refine nA #[.int .i64 0, .int .i64 0] 28 H ?_; intro g2 w2 H1; replace H := H1)
    | ((with_reducible refine gS rfl ?_); refine xS H ?_; intro w_ H1; replace H := H1)
    | ((with_reducible refine gL rfl ?_); refine xL H ?_)
    | fail)
  refine bodyPost_ret (results_ct rfl _ _ g2 28 _ (0, 0) _ rfl (H.of (by repeat (first | exact At.head | apply At.tail))) Tryz.underlying28 rfl (by kernel_rfl)) rfl ?_
  exact ⟨rfl, H.of (by repeat (first | exact At.head | apply At.tail)), H.chg⟩
def jumpP (p : Par) (was : St) (ticks : Int) (nx : St) : Bool := (ofP p was.set was.good was.held was.hops == 0) || decide (farP p nx.held < sabs (ssub (midP nx.lo nx.hi) (sadd [was.time, ticks])))
def stepTime (p : Par) (was : St) (ticks : Int) (nx : St) : Int := slewP p was.time was.set ticks (midP nx.lo nx.hi) (jumpP p was ticks nx)
def stepMend (p : Par) (was : St) (ticks : Int) (nx : St) : Int × Int × Bool := mendP was.st was.sn (stepTime p was ticks nx) (sadd [(saneS p.D nx).hi, farP p (saneS p.D nx).held])
def stepTick (p : Par) (was : St) (ticks : Int) (nx : St) : Int × Int := tickP (stepMend p was ticks nx).1 (stepMend p was ticks nx).2.1 (stepTime p was ticks nx)
def stepS (p : Par) (was : St) (ticks : Int) (nx : St) : St where
  lo := (saneS p.D nx).lo
  hi := (saneS p.D nx).hi
  time := stepTime p was ticks nx
  set := true
  held := (saneS p.D nx).held
  hops := (saneS p.D nx).hops
  good := (saneS p.D nx).good
  tab := (saneS p.D nx).tab
  st := (stepTick p was ticks nx).1
  sn := (stepTick p was ticks nx).2
  life := if ((stepMend p was ticks nx).2.2 || decide (stepTime p was ticks nx < was.time)) = true then bound (sadd [bound was.life 0 2305843009213693952, 1]) 0 2305843009213693952 else bound was.life 0 2305843009213693952
set_option maxRecDepth 100000 in
set_option maxHeartbeats 16000000 in
theorem Step_calls (p : Par) (s : St) (A : Option Addr) (c g : Nat) {tG : TypeId} (me : List Value) (ticks : Int) (nx : St) (A2 : Option Addr) (c2 : Nat) (w : World) (hg : w.heap[g]? = some (.cells (.int .i64 p.N :: .int .i64 p.F :: .int .i64 p.D :: .int .i64 p.Be :: .int .i64 p.Rho :: .int .i64 p.De :: .int .i64 p.Ji :: .int .i64 p.Eps :: .int .i64 p.Mu :: .int .i64 p.Ho :: .int .i64 p.Pu :: .int .i64 p.Se :: .int .i64 s.lo :: .int .i64 s.hi :: .int .i64 s.time :: .bool s.set :: .int .i64 s.held :: .int .i64 s.hops :: .bool s.good :: .slice A s.tab.length c :: .int .i64 s.st :: .int .i64 s.sn :: .int .i64 s.life :: me).toArray tG (0, 0))) (hr : Tr (fun k => k = g) w (fun W => Kd.C k72 W A2 nx.tab.length nx.tab)) (hl : nx.tab.length ≤ 4096) :
    Calls Tryz.prog 37 #[.pointer (some ⟨g, 0, none⟩), .int .i64 ticks, .agg #[.int .i64 nx.lo, .int .i64 nx.hi, .int .i64 nx.time, .bool nx.set, .int .i64 nx.held, .int .i64 nx.hops, .bool nx.good, .slice A2 nx.tab.length c2, .int .i64 nx.st, .int .i64 nx.sn, .int .i64 nx.life]] w fun e w' => ∃ A' c', e = .returned (.tuple #[]) ∧ w'.heap[g]? = some (.cells (.int .i64 p.N :: .int .i64 p.F :: .int .i64 p.D :: .int .i64 p.Be :: .int .i64 p.Rho :: .int .i64 p.De :: .int .i64 p.Ji :: .int .i64 p.Eps :: .int .i64 p.Mu :: .int .i64 p.Ho :: .int .i64 p.Pu :: .int .i64 p.Se :: .int .i64 (stepS p s ticks nx).lo :: .int .i64 (stepS p s ticks nx).hi :: .int .i64 (stepS p s ticks nx).time :: .bool (stepS p s ticks nx).set :: .int .i64 (stepS p s ticks nx).held :: .int .i64 (stepS p s ticks nx).hops :: .bool (stepS p s ticks nx).good :: .slice A' (stepS p s ticks nx).tab.length c' :: .int .i64 (stepS p s ticks nx).st :: .int .i64 (stepS p s ticks nx).sn :: .int .i64 (stepS p s ticks nx).life :: me).toArray tG (0, 0)) ∧ w'.ownsRow w.heap.size 72 2 (.slice A' (stepS p s ticks nx).tab.length c') (stepS p s ticks nx).tab.length (flL (stepS p s ticks nx).tab) ∧ Chg (fun k => k = g) w w' := by
  have H := Fr.start1 (M := fun k => k = g) (A := fun _ => False) (p := fun W => Kd.C k72 W A2 nx.tab.length nx.tab) (fun _ h => h.elim) hg rfl (Tr.less hr (fun k _ q => q.resolve_left id))
  have HSN := Lib.hid (fun W h => Sane_calls p nx A2 c2 W h hl)
  obtain ⟨lo, hi, time, set, held, hops, good, tab, st, sn, life⟩ := s
  obtain ⟨nlo, nhi, ntime, nset, nheld, nhops, ngood, ntab, nst, nsn, nlife⟩ := nx
  dsimp only at H HSN hl hr ⊢
  obtain ⟨z, hz⟩ : ∃ z, saneS p.D ⟨nlo, nhi, ntime, nset, nheld, nhops, ngood, ntab, nst, nsn, nlife⟩ = z := ⟨_, rfl⟩
  obtain ⟨zlo, zhi, ztime, zset, zheld, zhops, zgood, ztab, zst, zsn, zlife⟩ := z
  rw [hz] at HSN
  dsimp only at HSN
  obtain ⟨o, ho⟩ : ∃ x, ofP p set good held hops = x := ⟨_, rfl⟩
  obtain ⟨u, hu⟩ : ∃ x, midP nlo nhi = x := ⟨_, rfl⟩
  obtain ⟨off, hoff⟩ : ∃ x, sabs (ssub u (sadd [time, ticks])) = x := ⟨_, rfl⟩
  obtain ⟨fr, hfr⟩ : ∃ x, farP p nheld = x := ⟨_, rfl⟩
  obtain ⟨j, hj⟩ : ∃ x, ((o == 0) || decide (fr < off)) = x := ⟨_, rfl⟩
  obtain ⟨ct, hct⟩ : ∃ x, slewP p time set ticks u j = x := ⟨_, rfl⟩
  obtain ⟨mo, hmo⟩ : ∃ x, sadd [zhi, farP p zheld] = x := ⟨_, rfl⟩
  obtain ⟨⟨m1, m2, m3⟩, hm⟩ : ∃ x, mendP st sn ct mo = x := ⟨_, rfl⟩
  obtain ⟨⟨t1, t2⟩, ht⟩ : ∃ x, tickP m1 m2 ct = x := ⟨_, rfl⟩
  obtain ⟨l0, hl0⟩ : ∃ x, bound life 0 2305843009213693952 = x := ⟨_, rfl⟩
  obtain ⟨l1, hl1⟩ : ∃ x, bound (sadd [l0, 1]) 0 2305843009213693952 = x := ⟨_, rfl⟩
  obtain ⟨n, hn⟩ : ∃ x, tab.length = x := ⟨_, rfl⟩
  obtain ⟨nn, hnn⟩ : ∃ x, ntab.length = x := ⟨_, rfl⟩
  have KMid := Lib.hid (fun W => hu ▸ Mid_calls nlo nhi W)
  have KAbs := Lib.hid (fun W => hoff ▸ ret_below (Abs_calls (ssub u (sadd [time, ticks])) W))
  have KOf : Hid (∀ W, Calls Tryz.prog 80 #[.agg #[.int .i64 p.N, .int .i64 p.F, .int .i64 p.D, .int .i64 p.Be, .int .i64 p.Rho, .int .i64 p.De, .int .i64 p.Ji, .int .i64 p.Eps, .int .i64 p.Mu, .int .i64 p.Ho, .int .i64 p.Pu, .int .i64 p.Se], .agg #[.int .i64 lo, .int .i64 hi, .int .i64 time, .bool set, .int .i64 held, .int .i64 hops, .bool good, .slice A n c, .int .i64 st, .int .i64 sn, .int .i64 life]] W fun e w' => e = .returned (.int .i64 o) ∧ Below W.heap.size W w') := Lib.hid (fun W => ho ▸ Of_calls p lo hi time set held hops good A n c st sn life W)
  have KFar := Lib.hid (fun W => hfr ▸ Far_calls p nheld W)
  have KSlew := Lib.hid (fun W => hct ▸ Slew_calls p time set ticks u j W)
  have KMost : Hid (∀ W A1 c1, W.heap[g]? = some (.cells (.int .i64 p.N :: .int .i64 p.F :: .int .i64 p.D :: .int .i64 p.Be :: .int .i64 p.Rho :: .int .i64 p.De :: .int .i64 p.Ji :: .int .i64 p.Eps :: .int .i64 p.Mu :: .int .i64 p.Ho :: .int .i64 p.Pu :: .int .i64 p.Se :: .int .i64 zlo :: .int .i64 zhi :: .int .i64 ct :: .bool true :: .int .i64 zheld :: .int .i64 zhops :: .bool zgood :: .slice A1 ztab.length c1 :: .int .i64 st :: .int .i64 sn :: .int .i64 l0 :: me).toArray tG (0, 0)) → Calls Tryz.prog 83 #[.pointer (some ⟨g, 0, none⟩)] W fun e w' => e = .returned (.int .i64 mo) ∧ Below W.heap.size W w') := Lib.hid (fun W A1 c1 h => hmo ▸ most_calls (tG := tG) p ⟨zlo, zhi, ct, true, zheld, zhops, zgood, ztab, st, sn, l0⟩ A1 c1 g me W h)
  have KMend : Hid (∀ W, Calls Tryz.prog 82 #[.agg #[.int .i64 st, .int .i64 sn], .int .i64 ct, .int .i64 mo] W fun e w' => e = .returned (.tuple #[.agg #[.int .i64 m1, .int .i64 m2], .bool m3]) ∧ Below W.heap.size W w') := Lib.hid (fun W => by have := Mend_calls st sn ct mo W; rw [hm] at this; exact this)
  have KTick : Hid (∀ W, Calls Tryz.prog 84 #[.agg #[.int .i64 m1, .int .i64 m2], .int .i64 ct] W fun e w' => e = .returned (.agg #[.int .i64 t1, .int .i64 t2]) ∧ Below W.heap.size W w') := Lib.hid (fun W => by have := Tick_calls m1 m2 ct W; rw [ht] at this; exact this)
  have KB1 := Lib.hid (fun W => hl0 ▸ ret_below (Bound_calls life 0 2305843009213693952 W))
  have KB2 := Lib.hid (fun W => hl1 ▸ ret_below (Bound_calls (sadd [l0, 1]) 0 2305843009213693952 W))
  have HS : Hid (stepS p ⟨lo, hi, time, set, held, hops, good, tab, st, sn, life⟩ ticks ⟨nlo, nhi, ntime, nset, nheld, nhops, ngood, ntab, nst, nsn, nlife⟩ = ⟨zlo, zhi, ct, true, zheld, zhops, zgood, ztab, t1, t2, if (m3 || decide (ct < time)) = true then l1 else l0⟩) := Lib.hid (by
    have e1 : jumpP p ⟨lo, hi, time, set, held, hops, good, tab, st, sn, life⟩ ticks ⟨nlo, nhi, ntime, nset, nheld, nhops, ngood, ntab, nst, nsn, nlife⟩ = j := by
      unfold jumpP; dsimp only; rw [ho, hu, hoff, hfr, hj]
    have e2 : stepTime p ⟨lo, hi, time, set, held, hops, good, tab, st, sn, life⟩ ticks ⟨nlo, nhi, ntime, nset, nheld, nhops, ngood, ntab, nst, nsn, nlife⟩ = ct := by
      unfold stepTime; rw [e1]; dsimp only; rw [hu, hct]
    have e3 : stepMend p ⟨lo, hi, time, set, held, hops, good, tab, st, sn, life⟩ ticks ⟨nlo, nhi, ntime, nset, nheld, nhops, ngood, ntab, nst, nsn, nlife⟩ = (m1, m2, m3) := by
      unfold stepMend; rw [e2, hz]; dsimp only; rw [hmo, hm]
    have e4 : stepTick p ⟨lo, hi, time, set, held, hops, good, tab, st, sn, life⟩ ticks ⟨nlo, nhi, ntime, nset, nheld, nhops, ngood, ntab, nst, nsn, nlife⟩ = (t1, t2) := by
      unfold stepTick; rw [e3, e2]; exact ht
    unfold stepS
    rw [e2, e3, e4, hz]
    dsimp only
    rw [hl0, hl1])
  rw [HS.out]
  dsimp only
  rw [hnn] at H HSN ⊢
  rw [hn] at H
  clear hg hr hl hz ho hu hoff hfr hct hmo hm ht hl0 hl1 hn hnn
  cases hb : (o == 0)
  all_goals
    rw [hb] at hj
    first | rw [Bool.true_or] at hj | rw [Bool.false_or] at hj
    subst hj
    go_enter Tryz.func37, Tryz.ntmps37
    go_wp2_with (first
      | (go_at_call 78; (with_reducible refine (KMid.out _).mono ?_); rintro e w' ⟨rfl, hb⟩; have H1 := H.call hb; clear hb; replace H := H1; clear H1)
      | (go_at_call 40; (with_reducible refine (Add2 (H.of At.head)).mono ?_); rintro e w' ⟨rfl, hb⟩; have H1 := H.call hb; clear hb; replace H := H1; clear H1)
      | (go_at_call 77; (with_reducible refine (ret_below (Sub_calls _ _ _)).mono ?_); rintro e w' ⟨rfl, hb⟩; have H1 := H.call hb; clear hb; replace H := H1; clear H1)
      | (go_at_call 79; (with_reducible refine (KAbs.out _).mono ?_); rintro e w' ⟨rfl, hb⟩; have H1 := H.call hb; clear hb; replace H := H1; clear H1)
      | ((with_reducible refine gate_dst (N := 5) rfl ?_); refine nB H ?_; intro g5 w5 H1; replace H := H1)
      | ((with_reducible refine gate_dst (N := 6) rfl ?_); refine nA #[.int .i64 0, .int .i64 0, .int .i64 0, .bool false, .int .i64 0, .int .i64 0, .bool false, .slice none 0 0, .int .i64 0, .int .i64 0, .int .i64 0] 30 H ?_; intro g6 w6 H1; replace H := H1)
      | ((with_reducible refine gate_dst (N := 26) rfl ?_); refine nR H ?_; intro x26 w26 H1; replace H := H1)
      | ((with_reducible refine gate_dst (N := 111) rfl ?_); refine nF (.agg #[_, _]) ?_)
      | ((with_reducible refine gate_dst (N := 129) rfl ?_); refine nR H ?_; intro x129 w129 H1; replace H := H1)
      | ((with_reducible refine gS rfl ?_); refine xS H ?_; intro w_ H1; replace H := H1)
      | ((with_reducible refine gL rfl ?_); (try (refine gate_guard (by rfl) ?_; dsimp only)); refine xL H ?_)
      | fail)
    refine ko_region0 H (by kernel_rfl) (by as_aux_lemma => kernel_rfl) (fun HR => ?_)
    repeat ((first
      | ((with_reducible refine kg_call (f := 80) rfl ?_); refine yC 80 Tryz.func80 (fun W hC hd => KOf.out W) ?_)
      | ((with_reducible refine kg_call (f := 25) rfl ?_); refine yC 25 Tryz.func25 (fun W hC hd => KFar.out W) ?_)
      | ((with_reducible refine kg_dst (N := 10) rfl ?_); refine yV ?_; intro g10)
      | ((with_reducible refine kg_dst (N := 11) rfl ?_); refine yV ?_; intro g11)
      | ((with_reducible refine kg_load rfl ?_); refine yL HR ?_)
      | ((with_reducible refine kg_store rfl ?_); refine yS ?_; (try simp only [Value.cells, List.length_cons, List.length_nil, Nat.reduceAdd]))
      | (refine yP ?_)
      | (refine yO ?_)); (try simp only [Act.put, lsA, lsZ, lsS, Nat.reduceAdd]))
    refine ko_end ?_
    intro w1 H1
    clear HR H
    have H := H1
    clear H1
    (try simp only [List.map_cons, List.map_nil, cv, List.cons_append, List.nil_append] at H)
    go_wp2
    refine ko_region0 H (by kernel_rfl) (by as_aux_lemma => kernel_rfl) (fun HR => ?_)
    repeat ((first
      | ((with_reducible refine kg_call (f := 81) rfl ?_); refine yC 81 Tryz.func81 (fun W hC hd => KSlew.out W) ?_)
      | ((with_reducible refine kg_dst (N := 10) rfl ?_); refine yV ?_; intro g10)
      | ((with_reducible refine kg_dst (N := 11) rfl ?_); refine yV ?_; intro g11)
      | ((with_reducible refine kg_load rfl ?_); refine yL HR ?_)
      | ((with_reducible refine kg_store rfl ?_); refine yS ?_; (try simp only [Value.cells, List.length_cons, List.length_nil, Nat.reduceAdd]))
      | (refine yP ?_)
      | (refine yO ?_)); (try simp only [Act.put, lsA, lsZ, lsS, Nat.reduceAdd]))
    refine ko_end ?_
    intro w1 H1
    clear HR H
    have H := H1
    clear H1
    (try simp only [List.map_cons, List.map_nil, cv, List.cons_append, List.nil_append] at H)
    go_wp2
    refine ro_start (Frs _ _ _ _ _) [9] [0, 1, 2, 3, 4, 5, 6, 7, 8, 9] 10 (by kernel_rfl) (by rfl) (by simp only [pickR, List.getElem?_cons_succ, List.getElem?_cons_zero]; rfl) (by rfl) (H.drewN 1) (fun HS => ?_)
    have H1 : Fr _ _ _ _ _ _ := HS
    clear HS H
    have H := H1
    clear H1
    repeat ((first
      | ((with_reducible refine rz_call (f := 15) rfl ?_); refine ro_call 15 _ rfl (by kernel_rfl) (by kernel_rfl) (by rfl) Tryz.func15 (by kernel_rfl) rfl (by simp only [List.map_toArray, List.map_cons, List.map_nil]; rfl) ?_; (refine (HSN.out _ H.now).mono ?_); rintro e w' ⟨A1, c1, rfl, ho, hb⟩; have HT := Tr_row H.avs H.chg.size ho; have H2 := H.call2 hb HT; have H1 := H.call hb; refine ⟨_, rfl, H1, fun _ => ?_⟩; clear hb ho HT H1 H; have H := H2; clear H2; (try simp only [Act.put, lsA, lsZ, lsS, Nat.reduceAdd]))
      | ((with_reducible refine rz_load rfl ?_); refine zL H ?_)
      | ((with_reducible refine rz_store rfl ?_); refine zS H ?_; intro w1 H1; replace H := H1)
      | (refine zO ?_)
      | (refine zP ?_)); (try simp only [Act.put, lsA, lsZ, lsS, Nat.reduceAdd]))
    refine ro_done (by kernel_rfl) ?_
    go_wp2
    refine ko_region1 H (by simp only [List.length_cons, List.length_nil, Nat.reduceAdd]; rfl) (g := g) (by repeat (first | exact Take.head | apply Take.tail)) (by kernel_rfl) (by as_aux_lemma => kernel_rfl) (fun HR => ?_)
    repeat ((first
      | ((with_reducible refine kg_call (f := 46) rfl ?_); refine yC 46 Tryz.func46 (fun W hC hd => KB1.out W) ?_)
      | ((with_reducible refine kg_dst (N := 10) rfl ?_); refine yV ?_; intro g10)
      | ((with_reducible refine kg_dst (N := 11) rfl ?_); refine yV ?_; intro g11)
      | ((with_reducible refine kg_load rfl ?_); refine yL HR ?_)
      | ((with_reducible refine kg_store rfl ?_); refine yS ?_; (try simp only [Value.cells, List.length_cons, List.length_nil, Nat.reduceAdd]))
      | (refine yP ?_)
      | (refine yO ?_)); (try simp only [Act.put, lsA, lsZ, lsS, Nat.reduceAdd]))
    refine ko_end ?_
    intro w1 H1
    clear HR H
    have H := H1
    clear H1
    (try simp only [List.map_cons, List.map_nil, cv, List.cons_append, List.nil_append] at H)
    go_wp2
    refine ko_region0 H (by kernel_rfl) (by as_aux_lemma => kernel_rfl) (fun HR => ?_)
    repeat ((first
      | ((with_reducible refine kg_call (f := 83) rfl ?_); refine yC 83 Tryz.func83 (fun W hC hd => KMost.out W A1 c1 ((HR W hC).blk (g, _) (by repeat (first | exact List.mem_cons_self | apply List.mem_cons_of_mem)))) ?_)
      | ((with_reducible refine kg_call (f := 82) rfl ?_); refine yC 82 Tryz.func82 (fun W hC hd => KMend.out W) ?_)
      | ((with_reducible refine kg_dst (N := 10) rfl ?_); refine yV ?_; intro g10)
      | ((with_reducible refine kg_dst (N := 11) rfl ?_); refine yV ?_; intro g11)
      | ((with_reducible refine kg_load rfl ?_); refine yL HR ?_)
      | ((with_reducible refine kg_store rfl ?_); refine yS ?_; (try simp only [Value.cells, List.length_cons, List.length_nil, Nat.reduceAdd]))
      | (refine yP ?_)
      | (refine yO ?_)); (try simp only [Act.put, lsA, lsZ, lsS, Nat.reduceAdd]))
    refine ko_end ?_
    intro w1 H1
    clear HR H
    have H := H1
    clear H1
    (try simp only [List.map_cons, List.map_nil, cv, List.cons_append, List.nil_append] at H)
    cases m3
    all_goals
      cases hlt : decide (ct < time)
      all_goals
        go_wp2_with (first
          | (go_at_call 84; (with_reducible refine (KTick.out _).mono ?_); rintro e w' ⟨rfl, hb⟩; have H1 := H.call hb; clear hb; replace H := H1; clear H1)
          | (go_at_call 40; (with_reducible refine (Add2 (H.of At.head)).mono ?_); rintro e w' ⟨rfl, hb⟩; have H1 := H.call hb; clear hb; replace H := H1; clear H1)
          | (go_at_call 46; (with_reducible refine (KB2.out _).mono ?_); rintro e w' ⟨rfl, hb⟩; have H1 := H.call hb; clear hb; replace H := H1; clear H1)
          | ((with_reducible refine gate_dst (N := 5) rfl ?_); refine nB H ?_; intro g5 w5 H1; replace H := H1)
          | ((with_reducible refine gate_dst (N := 6) rfl ?_); refine nA #[.int .i64 0, .int .i64 0, .int .i64 0, .bool false, .int .i64 0, .int .i64 0, .bool false, .slice none 0 0, .int .i64 0, .int .i64 0, .int .i64 0] 30 H ?_; intro g6 w6 H1; replace H := H1)
          | ((with_reducible refine gate_dst (N := 26) rfl ?_); refine nR H ?_; intro x26 w26 H1; replace H := H1)
          | ((with_reducible refine gate_dst (N := 111) rfl ?_); refine nF (.agg #[_, _]) ?_)
          | ((with_reducible refine gate_dst (N := 129) rfl ?_); refine nR H ?_; intro x129 w129 H1; replace H := H1)
          | ((with_reducible refine gS rfl ?_); refine xS H ?_; intro w_ H1; replace H := H1)
          | ((with_reducible refine gL rfl ?_); (try (refine gate_guard (by rfl) ?_; dsimp only)); refine xL H ?_)
          | fail)
        all_goals
          refine bodyPost_end (results_none rfl _ _ _) rfl ?_
          first
            | exact ⟨rfl, A1, c1, H.of (by repeat (first | exact At.head | apply At.tail)), H.now.2, H.chg⟩
            | exact ⟨A1, c1, rfl, H.of (by repeat (first | exact At.head | apply At.tail)), H.now.2, H.chg⟩
end Go.Proofs.YtdaohldmojpihaaGreatDoor.G

namespace Go.Proofs
open Go.Shelf
def Tryz.insLays_ren : Go.Shelf.Ren := ⟨fun | 20 => 182 | n => n, fun | 24 => 45 | 22 => 32 | 3 => 3 | 25 => 173 | 4 => 4 | 0 => 0 | n => n, fun | n => n⟩
theorem Tryz.insLays : Go.Proofs.SlLaysF0.n20 Tryz.prog Tryz.insLays_ren := {
  mixed := by kernel_rfl
  f20 := ⟨Tryz.f182.name, by decide, Tryz.func182.trans (congrArg some (by kernel_rfl))⟩
  t0 := Tryz.underlying0
  a0 := Tryz.isAgg0
  z0 := Tryz.sizeOf0
  v0 := Tryz.zeroValue0
  t3 := Tryz.underlying3
  a3 := Tryz.isAgg3
  z3 := Tryz.sizeOf3
  v3 := Tryz.zeroValue3
  t4 := Tryz.underlying4
  a4 := Tryz.isAgg4
  z4 := Tryz.sizeOf4
  v4 := Tryz.zeroValue4
  t22 := Tryz.underlying32
  a22 := Tryz.isAgg32
  z22 := Tryz.sizeOf32
  v22 := Tryz.zeroValue32
  t25 := Tryz.underlying173
  a25 := Tryz.isAgg173
  z25 := Tryz.sizeOf173
  v25 := Tryz.zeroValue173 }
end Go.Proofs

namespace Go.Proofs.YtdaohldmojpihaaGreatDoor.G
open Go.RowKit Go.Sort Go.Proofs.YtdaohldmojpihaaGreatDoorW.PrintWords Go.Proofs.YtdaohldmojpihaaGreatDoorW.PrintLast Go.Proofs.YtdaohldmojpihaaGreatDoorW.PrintMore
set_option linter.unusedVariables false
set_option linter.unusedSimpArgs false
structure Hb where
  h : Hd
  lo : 0 ≤ h.frm
  hi : h.frm < 16
instance : Inhabited Hb := ⟨⟨⟨0, 0, 0, 0, 0, 0, false, false, 0, 0, 0, 0, 0, none, 0, 0, 0⟩, by decide, by decide⟩⟩
def encB (x : Hb) : List Value := encH x.h
def cfB (x y : Hb) : Int := x.h.frm - y.h.frm
theorem swoB : SWO (ltOf cfB) := by
  constructor
  · intro x; unfold ltOf cfB; simp
  · intro x y z h1 h2
    unfold ltOf cfB at *
    have := of_decide_eq_true h1
    have := of_decide_eq_true h2
    exact decide_eq_true (by omega)
  · intro x y z h1 h2
    unfold ltOf cfB at *
    have := of_decide_eq_false h1
    have := of_decide_eq_false h2
    exact decide_eq_false (by omega)
def unB (l : List Hb) : List Hd := l.map (·.h)
def sortB (l : List Hb) : List Hb := (insertionSort (ltOf cfB) l.toArray 0 l.length).toList
theorem sortB_spec (l : List Hb) : (sortB l).Perm l ∧ (sortB l).Pairwise (fun x y => x.h.frm ≤ y.h.frm) := by
  obtain ⟨⟨h1, _, h3⟩, h4⟩ := insertionSort_holds (lt := ltOf cfB) swoB l.toArray 0 l.length (Nat.zero_le _) (by simp)
  constructor
  · unfold sortB
    have e1 : ∀ a : Array Hb, a.size = l.length → (a.extract 0 l.length).toList = a.toList := fun a ha => by simp [← ha]
    rw [e1 _ (by rw [h1]; simp), e1 _ (by simp)] at h3
    simpa using h3
  · rw [List.pairwise_iff_getElem]
    intro i j hi hj hij
    have hs : (insertionSort (ltOf cfB) l.toArray 0 l.length).size = l.length := by rw [h1]; simp
    have hj' : j < l.length := by unfold sortB at hj; rw [Array.length_toList, hs] at hj; exact hj
    have := h4 i j (Nat.zero_le _) hij hj'
    have := of_decide_eq_false (p := cfB _ _ < 0) this
    have e : ∀ k (hk : k < (sortB l).length), (sortB l)[k] = (insertionSort (ltOf cfB) l.toArray 0 l.length)[k]! := fun k hk => by
      have hk' : k < (insertionSort (ltOf cfB) l.toArray 0 l.length).size := by unfold sortB at hk; rw [Array.length_toList] at hk; exact hk
      rw [getElem!_pos _ k hk']
      exact Array.getElem_toList hk'
    rw [e i hi, e j hj]
    generalize insertionSort (ltOf cfB) l.toArray 0 l.length = arr at this ⊢
    unfold cfB at this
    omega
theorem sortB_length (l : List Hb) : (sortB l).length = l.length := (sortB_spec l).1.length_eq
set_option maxHeartbeats 1000000 in
theorem Told2_calls (x y : Hb) (w : World) : Calls Tryz.prog 122 #[.agg (encB x).toArray, .agg (encB y).toArray] w fun e w' => e = .returned (.int .i64 (cfB x y)) ∧ ∃ q os', w' = grow (w.drewN q) os' := by
  obtain ⟨⟨kind, frm, lo, hi, held, hops, good, ref, slo, shi, pulse, st, sn, A, n, c, age⟩, b1, b2⟩ := x
  obtain ⟨⟨kind2, frm2, lo2, hi2, held2, hops2, good2, ref2, slo2, shi2, pulse2, st2, sn2, A2, n2, c2, age2⟩, b3, b4⟩ := y
  have hw : IntKind.i64.wrap (frm - frm2) = frm - frm2 := by rw [IntKind.wrap_i64]; dsimp only at b1 b2 b3 b4; omega
  unfold cfB
  simp only [encB, encH]
  clear b1 b2 b3 b4
  go_enter Tryz.func122, Tryz.ntmps122
  go_wp2
  go_ret
  exact ⟨by simp only [hw]; try rfl, 0, _, by rw [alloc_eq_grow, alloc_eq_grow, grow_grow]; rfl⟩
theorem flatB (l : List Hb) : (flatK encB 15 l.toArray).toList = flH (unB l) := by
  apply List.ext_getElem?
  intro t
  have hl : (flH (unB l)).length = l.length * 15 := by rw [flH_length]; unfold unB; rw [List.length_map]
  by_cases ht : t < l.length * 15
  · have hd : t / 15 < l.length := by omega
    have e1 : (flH (unB l))[t]? = some (encB l[t / 15])[t % 15]! := by
      have hm : t % 15 < (encB l[t / 15]).length := by show t % 15 < 15; omega
      have := flH_at (unB l) (t / 15) (t % 15) (l[t / 15]).h (encB l[t / 15])[t % 15]! (by unfold unB; rw [List.getElem?_map, List.getElem?_eq_getElem hd]; rfl) (by
        show (encB l[t / 15])[t % 15]? = _
        rw [List.getElem?_eq_getElem hm, getElem!_pos (encB l[t / 15]) (t % 15) hm])
      rw [show t / 15 * 15 + t % 15 = t by omega] at this
      exact this
    rw [e1, Array.getElem?_toList]
    have hs : t < (flatK encB 15 l.toArray).size := by rw [size_flatK]; simpa using ht
    rw [Array.getElem?_eq_getElem hs]
    have := get_flatK encB 15 l.toArray t (by simpa using ht)
    rw [getElem!_pos (flatK encB 15 l.toArray) t hs] at this
    rw [this]
    simp [hd]
  · have hs : (flatK encB 15 l.toArray).toList.length = l.length * 15 := by rw [Array.length_toList, size_flatK]; simp
    rw [List.getElem?_eq_none (by omega), List.getElem?_eq_none (by omega)]
theorem holdsB {W : World} {g : Nat} {cur : Array Value} {e : TypeId} {l : List Hb} (hb : W.heap[g]? = some (.cells cur e (0, 0))) (ht : cur.toList.take (l.length * 15) = flH (unB l)) : HoldsK encB 15 W g 0 l.toArray := by
  intro j hj
  rw [size_flatK] at hj
  have hj' : j < l.length * 15 := by simpa using hj
  refine ⟨?_, by simp [World.frozen?, hb]⟩
  have h1 : (cur.toList.take (l.length * 15))[j]? = (flatK encB 15 l.toArray).toList[j]? := by rw [ht, flatB]
  rw [List.getElem?_take_of_lt hj'] at h1
  rw [Nat.zero_add, blk_cell hb, ← Array.getElem?_toList, h1, Array.getElem?_toList]
  have hs : j < (flatK encB 15 l.toArray).size := by rw [size_flatK]; exact hj
  rw [Array.getElem?_eq_getElem hs, getElem!_pos _ j hs]
  rfl
theorem heapB {w : World} {g n : Nat} {os : Array Obj} {cur : Array Value} {e : TypeId} {fr : Nat × Nat} (d : Array Hb) (hb : w.heap[g]? = some (.cells cur e fr)) :
    (sortWorldK encB 15 w g 0 n d os).heap[g]? = some (.cells (putCells id 0 (flatK encB 15 d) cur) e fr) := by
  have hg : g < w.heap.size := (Array.getElem?_eq_some_iff.1 hb).1
  unfold sortWorldK putRowK
  rw [heap_grow_old _ _ (by simpa using hg)]
  simp [putRow, mapBlock, Sort.ahead, Array.getElem?_modify, hb, onCells]
theorem grownB {w : World} {g n : Nat} {os : Array Obj} (d : Array Hb) : w.grownBy (sortWorldK encB 15 w g 0 n d os) (some g) := by
  unfold sortWorldK putRowK
  refine ⟨rfl, rfl, rfl, by simp, fun k hk hne => ?_⟩
  rw [heap_grow_old _ _ (by simpa using hk)]
  have : g ≠ k := fun e => hne (by rw [e])
  simp [putRow, mapBlock, Sort.ahead, Array.getElem?_modify, this]
theorem takeB {cur : Array Value} {l : List Hb} (h : l.length * 15 ≤ cur.size) : (putCells id 0 (flatK encB 15 l.toArray) cur).toList.take (l.length * 15) = flH (unB l) := by
  rw [← flatB]
  apply List.ext_getElem?
  intro j
  have hs : (flatK encB 15 l.toArray).size = l.length * 15 := by rw [size_flatK]; simp
  by_cases hj : j < l.length * 15
  · rw [List.getElem?_take_of_lt hj, Array.getElem?_toList, Array.getElem?_toList]
    simp [putCells, hs, hj, show j < cur.size by omega]
  · rw [List.getElem?_take_eq_none (by omega), List.getElem?_eq_none (by rw [Array.length_toList, hs]; omega)]
set_option maxHeartbeats 2000000 in
theorem Ins_calls (g cap : Nat) (l : List Hb) (w : World) (hH : HoldsK encB 15 w g 0 l.toArray) (hg : g < w.heap.size) (hsz : l.length < 20) :
    Calls Tryz.prog 182 #[.slice (some ⟨g, 0, none⟩) l.length cap, .int .i64 0, .int .i64 l.length, .func (.func 122) #[] #[]] w fun e w' => e = .returned (.tuple #[]) ∧ ∃ n os, w' = sortWorldK encB 15 w g 0 n (sortB l).toArray os := by
  have eg : ∀ args w, (callFunc 122 args).run Tryz.prog w = .ok (.enter 122 args) w := enters_of Tryz.func122 (by kernel_rfl) rfl
  have := AnyQ.insertionSortCmpFunc Tryz.insLays 15 Tryz.isAgg45 Tryz.sizeOf45 encB (fun x => encH_len x.h) (fun x v hv => encH_one x.h v hv) cfB 122 #[] g 0 cap 0 l.length l.toArray w eg (fun m os dk hs x y => Told2_calls x y _) hH hg (Nat.zero_le _) (by simp) (by simp; omega)
  have e1 : (sortB l).toArray = insertionSort (ltOf cfB) l.toArray 0 l.length := by unfold sortB; simp
  rw [e1]
  have e2 : Tryz.insLays_ren.f 20 = 182 := rfl
  rw [e2] at this
  simpa using this
set_option maxRecDepth 100000 in
set_option maxHeartbeats 4000000 in
theorem InsNone_calls (A : Option Addr) (cap : Nat) (w : World) : Calls Tryz.prog 182 #[.slice A 0 cap, .int .i64 0, .int .i64 0, .func (.func 122) #[] #[]] w fun e w' => e = .returned (.tuple #[]) ∧ w' = w := by
  go_enter Tryz.func182, Tryz.ntmps182
  go_wp2
  go_loop [8] (fun v => v = .int .i64 1) (fun v => 0)
  case atStart => rfl
  case round =>
    subst hrel
    go_wp2
    refine bodyPost_end (results_none rfl _ _ _) rfl ?_
    exact ⟨rfl, rfl⟩
set_option maxRecDepth 100000 in
set_option maxHeartbeats 4000000 in
theorem Stab_calls (A : Option Addr) (n cap : Nat) (R : World → Prop) (w : World) (hn : n < 20) (hI : Calls Tryz.prog 182 #[.slice A n cap, .int .i64 0, .int .i64 n, .func (.func 122) #[] #[]] w fun e w' => e = .returned (.tuple #[]) ∧ R w') :
    Calls Tryz.prog 121 #[.slice A n cap, .func (.func 122) #[] #[]] w fun e w' => e = .returned (.tuple #[]) ∧ R w' := by
  have hS : Calls Tryz.prog 160 #[.slice A n cap, .int .i64 n, .func (.func 122) #[] #[]] w fun e w' => e = .returned (.tuple #[]) ∧ R w' := by
    have HI := Lib.hid hI
    have h1 : ¬ (20 : Int) ≤ (n : Int) := by omega
    have h2 : ¬ (20 : Int) < (n : Int) := by omega
    clear hI hn
    go_enter Tryz.func160, Tryz.ntmps160
    go_wp2
    go_loop [7, 8] (fun v7 v8 => v7 = .int .i64 0 ∧ v8 = .int .i64 20) (fun _ _ => 0)
    case atStart => exact ⟨rfl, rfl⟩
    case round =>
      obtain ⟨rfl, rfl⟩ := hrel
      go_wp2_with (first
        | (go_at_call 182; (with_reducible refine HI.out.mono ?_); rintro e w' ⟨rfl, hR⟩; have HR := Lib.hid hR; clear hR)
        | fail)
      go_loop [6] (fun v => v = .int .i64 20) (fun v => 0)
      case atStart => rfl
      case round =>
        subst hrel
        go_wp2
        refine bodyPost_end (results_none rfl _ _ _) rfl ?_
        exact ⟨rfl, HR.out⟩
  have HS := Lib.hid hS
  clear hS hI hn
  go_enter Tryz.func121, Tryz.ntmps121
  go_wp2_with (first
    | (go_at_call 160; (with_reducible refine HS.out.mono ?_); rintro e w' ⟨rfl, hR⟩; have HR := Lib.hid hR; clear hR)
    | fail)
  refine bodyPost_end (results_none rfl _ _ _) rfl ?_
  exact ⟨rfl, HR.out⟩
theorem SortH_calls (b : Nat) (v : Value) (l : List Hb) (w : World) (hO : w.ownsRow b 45 15 v l.length (flH (unB l))) (hl : l.length < 20) :
    Calls Tryz.prog 121 #[v, .func (.func 122) #[] #[]] w fun e w' => e = .returned (.tuple #[]) ∧ w'.ownsRow b 45 15 v l.length (flH (unB (sortB l))) ∧ w.grownBy w' v.ownBlock := by
  rcases hO with ⟨h1, ⟨rfl, h0⟩ | ⟨g, cap, cur, rfl, h3, h4, h5, h6, h7, h8⟩⟩
  · have hn : l = [] := List.eq_nil_of_length_eq_zero h0
    subst hn
    refine (Stab_calls none 0 0 (fun w' => w' = w) w (by omega) (InsNone_calls none 0 w)).mono ?_
    rintro e w' ⟨rfl, rfl⟩
    exact ⟨rfl, ⟨by rw [flH_length]; unfold unB; rw [List.length_map, sortB_length], .inl ⟨rfl, rfl⟩⟩, ⟨rfl, rfl, rfl, Nat.le_refl _, fun _ _ _ => rfl⟩⟩
  · have hg : g < w.heap.size := (Array.getElem?_eq_some_iff.1 h4).1
    refine (Stab_calls (some ⟨g, 0, none⟩) l.length cap (fun w' => ∃ n os, w' = sortWorldK encB 15 w g 0 n (sortB l).toArray os) w hl (Ins_calls g cap l w (holdsB h4 h8) hg hl)).mono ?_
    rintro e w' ⟨rfl, n, os, rfl⟩
    refine ⟨rfl, ⟨?_, .inr ⟨g, cap, _, rfl, h3, heapB _ h4, h5, h6, ?_, ?_⟩⟩, grownB _⟩
    · rw [flH_length]; unfold unB; rw [List.length_map, sortB_length]
    · simp [putCells, h7]
    · have := takeB (cur := cur) (l := sortB l) (by rw [sortB_length, h7]; exact Nat.mul_le_mul_right 15 h5)
      rw [sortB_length] at this
      exact this
end Go.Proofs.YtdaohldmojpihaaGreatDoor.G

namespace Go.Proofs.YtdaohldmojpihaaGreatDoor.G
open Go.RowKit Go.Proofs.YtdaohldmojpihaaGreatDoorW.PrintWords Go.Proofs.YtdaohldmojpihaaGreatDoorW.PrintLast Go.Proofs.YtdaohldmojpihaaGreatDoorW.PrintMore Go.Proofs.YtdaohldmojpihaaGreatDoorPl Go.Proofs.YtdaohldmojpihaaGreatDoorEm Go.Proofs.YtdaohldmojpihaaGreatDoorKr Go.Proofs.YtdaohldmojpihaaGreatDoorRz Go.Proofs.YtdaohldmojpihaaGreatDoor.X Go.Proofs.YtdaohldmojpihaaGreatDoorAy
set_option linter.unusedVariables false
set_option linter.unusedSimpArgs false
theorem min16 (N x : Int) (h : x < (if 16 < N then 16 else N)) : x < 16 := by split at h <;> omega
def fitH (N me : Int) (out : List Hb) (h : Hd) : Bool := (h.kind == 1) && decide (0 ≤ h.frm) && decide (h.frm < (if 16 < N then 16 else N)) && (h.frm != me) && !(unB out).any (fun x => x.frm == h.frm)
theorem fitH_bd {N me : Int} {out : List Hb} {h : Hd} (g : fitH N me out h = true) : 0 ≤ h.frm ∧ h.frm < 16 := by
  unfold fitH at g
  simp only [Bool.and_eq_true, decide_eq_true_eq] at g
  exact ⟨g.1.1.1.2, min16 _ _ g.1.1.2⟩
def addT (N me : Int) (out : List Hb) (h : Hd) : List Hb := if g : fitH N me out h = true then out ++ [⟨h, (fitH_bd g).1, (fitH_bd g).2⟩] else out
def firsts (N me : Int) (l : List Hd) : List Hb := l.foldl (addT N me) []
theorem firsts_snoc (N me : Int) (l : List Hd) (h : Hd) : firsts N me (l ++ [h]) = addT N me (firsts N me l) h := by unfold firsts; rw [List.foldl_append]; rfl
theorem few_of : ∀ (m : Nat) (l : List Int), l.Nodup → (∀ x ∈ l, 0 ≤ x ∧ x < m) → l.length ≤ m
  | 0, l, _, hb => by
    cases l with
    | nil => simp
    | cons x l => have := hb x List.mem_cons_self; omega
  | m + 1, l, hd, hb => by
    have h1 := few_of m (l.filter (fun x => x != (m : Int))) (hd.filter _) (fun x hx => by
      obtain ⟨h2, h3⟩ := List.mem_filter.1 hx
      have := hb x h2
      have h4 : x ≠ (m : Int) := by simpa using h3
      omega)
    have h2 : l.countP (fun x => x == (m : Int)) ≤ 1 := by
      have := List.nodup_iff_count.1 hd (m : Int)
      exact this
    have h3 := List.length_eq_countP_add_countP (l := l) (fun x => x == (m : Int))
    have h4 : l.countP (fun x => decide ¬((x == (m : Int)) = true)) = (l.filter (fun x => x != (m : Int))).length := by
      rw [← List.countP_eq_length_filter]
      congr 1
      funext x
      rw [Bool.eq_iff_iff]; simp [bne]
    omega
theorem firsts_nodup (N me : Int) : ∀ (l : List Hd), ((unB (firsts N me l)).map (·.frm)).Nodup := by
  intro l
  suffices h : ∀ (l : List Hd) (out : List Hb), ((unB out).map (·.frm)).Nodup → ((unB (l.foldl (addT N me) out)).map (·.frm)).Nodup from h l [] (by simp [unB])
  intro l
  induction l with
  | nil => intro out h; exact h
  | cons x l ih =>
    intro out h
    refine ih _ ?_
    unfold addT
    split
    · rename_i g
      unfold unB
      rw [List.map_append, List.map_append, List.nodup_append]
      refine ⟨h, by simp, fun a ha b hb => ?_⟩
      simp at hb
      subst hb
      intro e
      subst e
      unfold fitH at g
      simp only [Bool.and_eq_true, Bool.not_eq_true'] at g
      have g2 := g.2
      rw [List.any_eq_false] at g2
      obtain ⟨y, hy, e⟩ := List.mem_map.1 ha
      exact g2 y hy (by simp [e])
    · exact h
theorem firsts_len (N me : Int) (l : List Hd) : (firsts N me l).length ≤ 16 := by
  have := few_of 16 ((unB (firsts N me l)).map (·.frm)) (firsts_nodup N me l) (fun x hx => by
    obtain ⟨y, hy, rfl⟩ := List.mem_map.1 hx
    obtain ⟨z, hz, rfl⟩ := List.mem_map.1 hy
    exact ⟨z.lo, by have := z.hi; omega⟩)
  unfold unB at this
  simpa using this
theorem Fr.grow {M A : Nat → Prop} {w W W1 : World} {bl : List (Nat × Obj)} {p : World → Prop} {r : Option Nat} (H : Fr M A w W bl p) (hg : W.grownBy W1 r) (hr : ∀ k, r = some k → w.heap.size ≤ k ∧ ¬ Of bl k) (hp : Tr (fun k => (A k ∨ Of bl k) ∨ r = some k) W p) : Fr M A w W1 bl p :=
  ⟨H.av, ⟨hg.os.trans H.chg.os, hg.tape.trans H.chg.tape, hg.output.trans H.chg.output, Nat.le_trans H.chg.size hg.size, fun k hk hn => (hg.block k (Nat.lt_of_lt_of_le hk H.chg.size) (fun e => by have := (hr k e.symm).1; omega)).trans (H.chg.block k hk hn)⟩,
    fun x hx => ⟨(hg.block x.1 (Go.Proofs.YtdaohldmojpihaaGreatDoorEm.obj_lt (H.blk x hx).1) (fun e => (hr x.1 e.symm).2 ⟨x, hx, rfl⟩)).trans (H.blk x hx).1, (H.blk x hx).2⟩, H.nd,
    fun W' hW => hp W' (fun k hk hl => (hW k (fun q => hk (.inl q)) (Nat.lt_of_lt_of_le hl hg.size)).trans (hg.block k hl (fun e => hk (.inr e.symm))))⟩
theorem Tr.later {M A D : Nat → Prop} {w W : World} {p : World → Prop} (h0 : Tr A w p) (hc : Chg M w W) (hM : ∀ k, M k → A k) (hD : ∀ k, D k → k < w.heap.size → A k) : Tr D W p := fun W' hW =>
  h0 W' (fun k hk hl => (hW k (fun q => hk (hD k q hl)) (Nat.lt_of_lt_of_le hl hc.size)).trans (hc.block k hl (fun q => hk (hM k q))))
theorem own_ne {W : World} {b : Nat} {e t : TypeId} {sz n c g : Nat} {A : Option Addr} {xs : List Value} {cs : Array Value} (h : W.ownsRow b e sz (.slice A n c) n xs) (hg : W.heap[g]? = some (.cells cs t (0, 0))) (ht : t ≠ e) : ∀ ad, A = some ad → g ≠ ad.block := by
  intro ad ha he
  rcases h.2 with ⟨h2, _⟩ | ⟨g2, cap, cur, h2, h3, h4, h5⟩
  · injection h2 with e1
    rw [ha] at e1
    cases e1
  · injection h2 with e1
    rw [ha] at e1
    cases e1
    have he : g = g2 := he
    subst he
    rw [hg] at h4
    injection h4 with h4
    injection h4 with _ h4
    exact ht h4
theorem Fr.appended {M A : Nat → Prop} {w W W1 : World} {bl : List (Nat × Obj)} {p q : World → Prop} {e : TypeId} {sz n c : Nat} {Ao : Option Addr} {xs : List Value} (H : Fr M A w W bl q) (hM : ∀ k, M k → A k) (hp0 : Tr A w p) (hO : W.ownsRow w.heap.size e sz (.slice Ao n c) n xs) (hne : ∀ x, x ∈ bl → ∃ cs t, x.2 = .cells cs t (0, 0) ∧ t ≠ e) (hg : W.grownBy W1 (Value.slice Ao n c).ownBlock) : Fr M A w W1 bl p := by
  have hb : ∀ k, (Value.slice Ao n c).ownBlock = some k → ∃ ad, Ao = some ad ∧ ad.block = k := fun k hk => by
    cases Ao with
    | none => cases hk
    | some ad => exact ⟨ad, rfl, by injection hk⟩
  have hr : ∀ k, (Value.slice Ao n c).ownBlock = some k → w.heap.size ≤ k ∧ ¬ Of bl k := fun k hk => by
    obtain ⟨ad, e1, rfl⟩ := hb k hk
    refine ⟨(own_lo hO ad e1).1, fun ⟨x, hx, e2⟩ => ?_⟩
    obtain ⟨cs, t, e3, e4⟩ := hne x hx
    have := (H.blk x hx).1
    rw [e3] at this
    exact own_ne hO this e4 ad e1 e2
  have hold : ∀ k, Of bl k → k < w.heap.size → A k := fun k ⟨x, hx, e1⟩ hk => by
    rcases (H.blk x hx).2 with q | q
    · omega
    · exact hM k (e1 ▸ q)
  have H1 : Fr M A w W bl p := ⟨H.av, H.chg, H.blk, H.nd, Tr.later hp0 H.chg hM (fun k hk hl => hk.elim id (fun h => hold k h hl))⟩
  refine Fr.grow H1 hg hr (Tr.later hp0 H.chg hM (fun k hk hl => ?_))
  rcases hk with (hk | hk) | hk
  · exact hk
  · exact hold k hk hl
  · have := (hr k hk).1
    omega
theorem infoH : (Tryz.prog.info? 45).map (fun i => (i.zero, i.size, i.bytes)) = some (some (.agg #[.int .i64 0, .int .i64 0, .int .i64 0, .int .i64 0, .int .i64 0, .int .i64 0, .bool false, .bool false, .int .i64 0, .int .i64 0, .int .i64 0, .int .i64 0, .int .i64 0, .slice none 0 0, .int .i64 0]), 15, 128) := by kernel_rfl
theorem new_cells {W : World} {x : Nat} {t : TypeId} {l : List Value} (h : W.heap[x]? = some (.cells l.toArray t (0, 0))) : ∀ j u, l[j]? = some u → W.cell? ((⟨x, 0, none⟩ : Addr).add j) = some u := by
  intro j u hu
  rw [show ((⟨x, 0, none⟩ : Addr).add j) = ⟨x, j, none⟩ by
    unfold Addr.add
    split
    · rename_i h0; rw [h0]
    · simp, blk_cell h]
  simpa using hu
theorem fit_cases2 (N me : Int) (out : List Hb) (h : Hd) (f : Bool) (hf : fitH N me out h = f) :
    (f = false ∧ (h.kind == 1) = false) ∨ (f = false ∧ (h.kind == 1) = true ∧ decide (0 ≤ h.frm) = false) ∨ (f = false ∧ (h.kind == 1) = true ∧ decide (0 ≤ h.frm) = true ∧ decide (h.frm < (if 16 < N then 16 else N)) = false) ∨
    (f = false ∧ (h.kind == 1) = true ∧ decide (0 ≤ h.frm) = true ∧ decide (h.frm < (if 16 < N then 16 else N)) = true ∧ (h.frm != me) = false) ∨ (f = false ∧ (h.kind == 1) = true ∧ decide (0 ≤ h.frm) = true ∧ decide (h.frm < (if 16 < N then 16 else N)) = true ∧ (h.frm != me) = true ∧ (unB out).any (fun x => x.frm == h.frm) = true) ∨
    (f = true ∧ (h.kind == 1) = true ∧ decide (0 ≤ h.frm) = true ∧ decide (h.frm < (if 16 < N then 16 else N)) = true ∧ (h.frm != me) = true ∧ (unB out).any (fun x => x.frm == h.frm) = false) := by
  unfold fitH at hf
  subst hf
  generalize (h.kind == 1) = a
  generalize decide (0 ≤ h.frm) = b
  generalize decide (h.frm < (if 16 < N then 16 else N)) = c
  generalize (h.frm != me) = d
  generalize (unB out).any (fun x => x.frm == h.frm) = e
  cases a <;> cases b <;> cases c <;> cases d <;> cases e <;> simp
def told (N me : Int) (l : List Hd) : List Hb := sortB (firsts N me l)
set_option maxRecDepth 100000 in
set_option maxHeartbeats 16000000 in
theorem Told_calls (p : Par) (me : Int) (A : Option Addr) (c : Nat) (l : List Hd) (w : World) (hr : Tr (fun _ => False) w (fun W => RowH W A l)) (hl : l.length ≤ 4096) :
    Calls Tryz.prog 70 #[.agg #[.int .i64 p.N, .int .i64 p.F, .int .i64 p.D, .int .i64 p.Be, .int .i64 p.Rho, .int .i64 p.De, .int .i64 p.Ji, .int .i64 p.Eps, .int .i64 p.Mu, .int .i64 p.Ho, .int .i64 p.Pu, .int .i64 p.Se], .int .i64 me, .slice A l.length c] w fun e w' => ∃ v, e = .returned v ∧ w'.ownsRow w.heap.size 45 15 v (told p.N me l).length (flH (unB (told p.N me l))) ∧ Below w.heap.size w w' := by
  have H := Fr.start0 (M := fun _ => False) (A := fun _ => False) (w := w) (p := fun W => RowH W A l) (fun _ h => h.elim) hr
  have HR0 := Lib.hid hr
  obtain ⟨n, hn⟩ : ∃ n, l.length = n := ⟨_, rfl⟩
  have HN := Lib.hid hn
  rw [hn] at hl ⊢
  obtain ⟨i0, hi0, hz0, hz1, hz2⟩ := info_parts infoH
  obtain ⟨m, hm⟩ : ∃ m, (if 16 < p.N then (16 : Int) else p.N) = m := ⟨_, rfl⟩
  have hmin : ∀ ats ty W, (Builtin.min_ ats ty #[.int .i64 p.N, .int .i64 16]).run Tryz.prog W = .ok (.int .i64 m) W := fun ats ty W => by rw [← hm]; rfl
  have HMI := Lib.hid hm
  clear hm
  clear hr hn
  go_enter Tryz.func70, Tryz.ntmps70
  go_wp2_with (first
    | ((with_reducible refine gate_dst (N := 3) rfl ?_); refine nB H ?_; intro g3 w3 H1; replace H := H1)
    | ((with_reducible refine gate_dst (N := 9) rfl ?_); refine nA #[.int .i64 0, .int .i64 0, .int .i64 0, .int .i64 0, .int .i64 0, .int .i64 0, .bool false, .bool false, .int .i64 0, .int .i64 0, .int .i64 0, .int .i64 0, .int .i64 0, .slice none 0 0, .int .i64 0] 45 H ?_; intro g9 w9 H1; replace H := H1)
    | ((with_reducible refine gate_dst (N := 10) rfl ?_); refine nA #[.int .i64 0, .int .i64 0, .int .i64 0, .int .i64 0, .int .i64 0, .int .i64 0, .bool false, .bool false, .int .i64 0, .int .i64 0, .int .i64 0, .int .i64 0, .int .i64 0, .slice none 0 0] 43 H ?_; intro g10 w10 H1; replace H := H1)
    | ((with_reducible refine gate_dst (N := 51) rfl ?_); refine nR H ?_; intro x51 w51 H1; replace H := H1)
    | ((with_reducible refine gS rfl ?_); refine xS H ?_; intro w_ H1; replace H := H1)
    | ((with_reducible refine gL rfl ?_); (try (refine gate_guard (by rfl) ?_; dsimp only)); refine xL H ?_)
    | fail)
  go_loopw [7, 14] (fun v7 v14 wr => ∃ (k : Nat) (out : List Hb) (Ao : Option Addr) (on co : Nat), k ≤ n ∧ v14 = .int .i64 k ∧ v7 = .slice Ao on co ∧ on ≤ co ∧ on ≤ 16 ∧ Hid (out.length = on) ∧ Hid (firsts p.N me (l.take k) = out) ∧ Hid (wr.ownsRow w.heap.size 45 15 (.slice Ao on co) on (flH (unB out))) ∧ Fr (fun _ => False) (fun _ => False) w wr [(g3, .cells #[.int .i64 p.N, .int .i64 p.F, .int .i64 p.D, .int .i64 p.Be, .int .i64 p.Rho, .int .i64 p.De, .int .i64 p.Ji, .int .i64 p.Eps, .int .i64 p.Mu, .int .i64 p.Ho, .int .i64 p.Pu, .int .i64 p.Se] 23 (0, 0))] (fun W => RowH W A l)) (fun _ v14 _ => n - (intOf v14).toNat)
  case atStart => exact ⟨0, [], none, 0, 0, by omega, rfl, rfl, by omega, by omega, Lib.hid rfl, Lib.hid rfl, Lib.hid (World.ownsRow_nil _ _ _ _), H⟩
  case round =>
    clear H
    obtain ⟨k, out, Ao, on, co, hk, rfl, rfl, hco, hk16, HON, HF, HO, H⟩ := hrel
    by_cases hlt : k < n
    · have hkl : k < l.length := by rw [HN.out]; exact hlt
      have hk1 : (k : Int) < (n : Int) := by omega
      have hs1 : -9223372036854775808 ≤ (k : Int) + 1 := by omega
      have hs2 : (k : Int) + 1 ≤ 9223372036854775807 := by omega
      obtain ⟨ad, e, hx⟩ := H.now k hkl
      cases e
      obtain ⟨x, hxe⟩ : ∃ x, l[k] = x := ⟨_, rfl⟩
      rw [hxe] at hx
      have HT : Hid (firsts p.N me (l.take (k + 1)) = addT p.N me out x) := Lib.hid (by rw [List.take_succ_eq_append_getElem hkl, hxe, firsts_snoc, HF.out])
      obtain ⟨f, hf⟩ : ∃ f, fitH p.N me out x = f := ⟨_, rfl⟩
      have HFI := Lib.hid hf
      have hcs := fit_cases2 p.N me out x f hf
      obtain ⟨b, hb⟩ : ∃ b, (unB out).any (fun y => y.frm == x.frm) = b := ⟨_, rfl⟩
      have HCN : Hid (∀ W gm, W.cell? ⟨gm, 1, none⟩ = some (.int .i64 x.frm) → RowH W Ao (unB out) → Calls Tryz.prog 65 #[.slice Ao on co, .func (.func 120) #[] #[.pointer (some ⟨gm, 0, none⟩)]] W fun e w' => e = .returned (.bool b) ∧ Below W.heap.size W w') := Lib.hid (fun W gm h h2 => by
        have := ContainsH_calls Ao co (unB out) gm x.frm W h2 (by unfold unB; rw [List.length_map, HON.out]; omega) h
        rw [hb] at this
        unfold unB at this
        rw [List.length_map, HON.out] at this
        exact this)
      rw [hb, HMI.out] at hcs
      obtain ⟨kind, frm, lo, hi, held, hops, good, ref, slo, shi, pulse, st, sn, Ax, nx, cx, age⟩ := x
      have HC : Hid (∀ j u, [Value.int .i64 kind, .int .i64 frm, .int .i64 lo, .int .i64 hi, .int .i64 held, .int .i64 hops, .bool good, .bool ref, .int .i64 slo, .int .i64 shi, .int .i64 pulse, .int .i64 st, .int .i64 sn, .slice Ax nx cx, .int .i64 age][j]? = some u → wr.cell? ((ad.add (k * 15)).add j) = some u) := Lib.hid hx
      have H1 := H.and (Tr_own HO.out (Nat.le_refl _) (fun k1 a1 h1 h2 => by
        rcases h1 with h1 | ⟨y, hy, e⟩
        · exact h1.elim
        · rcases List.mem_singleton.1 hy with rfl
          rw [← e]
          exact own_ne HO.out (H.of At.head) (by decide) a1 h2))
      clear H
      have H := H1
      clear H1 HO
      dsimp only at hcs HCN
      clear hx hxe hf hb
      rcases hcs with ⟨rfl, d1⟩ | ⟨rfl, d1, d2⟩ | ⟨rfl, d1, d2, d3⟩ | ⟨rfl, d1, d2, d3, d4⟩ | ⟨rfl, d1, d2, d3, d4, rfl⟩ | ⟨rfl, d1, d2, d3, d4, rfl⟩
      all_goals
        go_wp2_with (first
          | ((with_reducible refine gate_dst (N := 17) rfl ?_); refine load_cells rfl rfl (ad := ad.add (k * 15)) (cs := [.int .i64 kind, .int .i64 frm, .int .i64 lo, .int .i64 hi, .int .i64 held, .int .i64 hops, .bool good, .bool ref, .int .i64 slo, .int .i64 shi, .int .i64 pulse, .int .i64 st, .int .i64 sn, .slice Ax nx cx, .int .i64 age]) ?hx Tryz.underlying45 rfl (by kernel_rfl) HC.out ?_; (case hx => first | rfl | (go_simp; done) | (go_simp; rfl)))
          | ((with_reducible refine gate_dst (N := 3) rfl ?_); refine nB H ?_; intro g3 w3 H1; replace H := H1)
          | ((with_reducible refine gate_dst (N := 9) rfl ?_); refine nA #[.int .i64 0, .int .i64 0, .int .i64 0, .int .i64 0, .int .i64 0, .int .i64 0, .bool false, .bool false, .int .i64 0, .int .i64 0, .int .i64 0, .int .i64 0, .int .i64 0, .slice none 0 0, .int .i64 0] 45 H ?_; intro g9 w9 H1; replace H := H1)
          | ((with_reducible refine gate_dst (N := 10) rfl ?_); refine nA #[.int .i64 0, .int .i64 0, .int .i64 0, .int .i64 0, .int .i64 0, .int .i64 0, .bool false, .bool false, .int .i64 0, .int .i64 0, .int .i64 0, .int .i64 0, .int .i64 0, .slice none 0 0] 43 H ?_; intro g10 w10 H1; replace H := H1)
          | ((with_reducible refine gate_dst (N := 51) rfl ?_); refine nR H ?_; intro x51 w51 H1; replace H := H1)
          | ((with_reducible refine gS rfl ?_); refine xS H ?_; intro w_ H1; replace H := H1)
          | ((with_reducible refine gL rfl ?_); (try (refine gate_guard (by rfl) ?_; dsimp only)); refine xL H ?_)
          | (go_at_call 65; (with_reducible refine (HCN.out _ _ (blk_cell (H.of At.head) 1) (rowH_own H.now.2)).mono ?_); rintro e w' ⟨rfl, hb⟩; have H1 := H.call hb; clear hb; replace H := H1; clear H1)
          | (at_builtin; refine wpList_append_own_at _ rfl _ _ 32 rfl w.heap.size 45 i0 _ 15 128 Tryz.underlying32 hi0 hz0 hz1 hz2 rfl (by decide) (.slice Ao on co) on (flH (unB out)) rfl H.now.2 ⟨x51, 0, none⟩ 1 1 [.int .i64 kind, .int .i64 frm, .int .i64 lo, .int .i64 hi, .int .i64 held, .int .i64 hops, .bool good, .bool ref, .int .i64 slo, .int .i64 shi, .int .i64 pulse, .int .i64 st, .int .i64 sn, .slice Ax nx cx, .int .i64 age] rfl rfl ?hn ?h1 (by unfold maxLen; omega) (by omega) H.chg.size ?_; (case hn => exact new_cells (H.of At.head)); (case h1 => exact encH_one ⟨kind, frm, lo, hi, held, hops, good, ref, slo, shi, pulse, st, sn, Ax, nx, cx, age⟩); intro v2 w2 hown hgrow hnil hat)
          | fail)
      any_goals
        refine ⟨⟨k + 1, out, Ao, on, co, by omega, rfl, rfl, hco, hk16, HON, Lib.hid ?_, Lib.hid H.now.2, (H.drop.drop).imp (fun _ h => h.1)⟩, by simp [intOf]; omega⟩
        rw [HT.out]
        unfold addT
        rw [dif_neg (by rw [HFI.out]; simp)]
      have HD := H.drop.drop.drop
      have HA := Fr.appended HD (fun k h => h) HR0.out H.now.2 (fun y hy => by rcases List.mem_singleton.1 hy with rfl; exact ⟨_, _, rfl, by decide⟩) hgrow
      rcases hown.2 with ⟨_, h3⟩ | ⟨g4, cap, cur, rfl, h3, h4, h5, h6, h7, h8⟩
      · omega
      · have hf1 : firsts p.N me (l.take (k + 1)) = out ++ [⟨⟨kind, frm, lo, hi, held, hops, good, ref, slo, shi, pulse, st, sn, Ax, nx, cx, age⟩, (fitH_bd HFI.out).1, (fitH_bd HFI.out).2⟩] := by
          rw [HT.out]
          unfold addT
          rw [dif_pos HFI.out]
        refine ⟨⟨k + 1, _, some ⟨g4, 0, none⟩, on + 1, cap, by omega, rfl, rfl, h5, ?_, Lib.hid ?_, Lib.hid hf1, Lib.hid ?_, HA⟩, by simp [intOf]; omega⟩
        · have := firsts_len p.N me (l.take (k + 1))
          rw [hf1, List.length_append, HON.out] at this
          simpa using this
        · rw [List.length_append, HON.out]; rfl
        · have e1 : unB (out ++ [⟨⟨kind, frm, lo, hi, held, hops, good, ref, slo, shi, pulse, st, sn, Ax, nx, cx, age⟩, (fitH_bd HFI.out).1, (fitH_bd HFI.out).2⟩]) = unB out ++ [⟨kind, frm, lo, hi, held, hops, good, ref, slo, shi, pulse, st, sn, Ax, nx, cx, age⟩] := by unfold unB; rw [List.map_append]; rfl
          rw [e1, flH_snoc]
          exact hown
    · obtain rfl : k = n := by omega
      have HFA : Hid (firsts p.N me l = out) := Lib.hid (by rw [← HF.out, List.take_of_length_le (by rw [HN.out]; exact Nat.le_refl _)])
      have HSO : Hid (Calls Tryz.prog 121 #[.slice Ao on co, .func (.func 122) #[] #[]] wr fun e w' => e = .returned (.tuple #[]) ∧ w'.ownsRow w.heap.size 45 15 (.slice Ao on co) on (flH (unB (sortB out))) ∧ wr.grownBy w' (Value.slice Ao on co).ownBlock) := Lib.hid (by
        have := SortH_calls w.heap.size (.slice Ao on co) out wr (by rw [HON.out]; exact HO.out) (by rw [HON.out]; omega)
        rw [HON.out] at this
        exact this)
      go_wp2_with (first
        | (go_at_call 121; (with_reducible refine HSO.out.mono ?_); rintro e w' ⟨rfl, hO2, hgrow⟩; have HA := Fr.appended H (fun k h => h) HR0.out HO.out (fun y hy => by rcases List.mem_singleton.1 hy with rfl; exact ⟨_, _, rfl, by decide⟩) hgrow; have HO2 := Lib.hid hO2; clear hO2 hgrow H)
        | fail)
      go_ret
      refine ⟨_, rfl, ?_, HA.below⟩
      unfold told
      rw [HFA.out, sortB_length, HON.out]
      exact HO2.out
end Go.Proofs.YtdaohldmojpihaaGreatDoor.G

namespace Go.Proofs.YtdaohldmojpihaaGreatDoor.G
open Go.RowKit Go.Proofs.YtdaohldmojpihaaGreatDoorW.PrintWords Go.Proofs.YtdaohldmojpihaaGreatDoorW.PrintLast Go.Proofs.YtdaohldmojpihaaGreatDoorW.PrintMore Go.Proofs.YtdaohldmojpihaaGreatDoorPl Go.Proofs.YtdaohldmojpihaaGreatDoorEm Go.Proofs.YtdaohldmojpihaaGreatDoorKr Go.Proofs.YtdaohldmojpihaaGreatDoorRz Go.Proofs.YtdaohldmojpihaaGreatDoor.X Go.Proofs.YtdaohldmojpihaaGreatDoorAy
set_option linter.unusedVariables false
set_option linter.unusedSimpArgs false
def pulseS (p : Par) (s : St) : Int := if syncE (ofP p s.set s.good s.held s.hops) = 0 then numP p s.time else 0
set_option maxRecDepth 100000 in
set_option maxHeartbeats 8000000 in
theorem Say_calls (p : Par) (s : St) (A : Option Addr) (c g : Nat) {tG : TypeId} (me : List Value) (kind : Int) (from_ : Int) (rd : Bool) (slo shi : Int) (w : World) (hg : w.heap[g]? = some (.cells (.int .i64 p.N :: .int .i64 p.F :: .int .i64 p.D :: .int .i64 p.Be :: .int .i64 p.Rho :: .int .i64 p.De :: .int .i64 p.Ji :: .int .i64 p.Eps :: .int .i64 p.Mu :: .int .i64 p.Ho :: .int .i64 p.Pu :: .int .i64 p.Se :: .int .i64 s.lo :: .int .i64 s.hi :: .int .i64 s.time :: .bool s.set :: .int .i64 s.held :: .int .i64 s.hops :: .bool s.good :: .slice A s.tab.length c :: .int .i64 s.st :: .int .i64 s.sn :: .int .i64 s.life :: me).toArray tG (0, 0))) (hr : Tr (fun k => k = g) w (fun W => Kd.C k72 W A s.tab.length s.tab)) (hl : s.tab.length ≤ 4096) :
    Calls Tryz.prog 39 #[.pointer (some ⟨g, 0, none⟩), .int .i64 kind, .int .i64 from_, .bool rd, .agg #[.int .i64 slo, .int .i64 shi]] w fun e w' => ∃ A' c', e = .returned (.agg #[.int .i64 kind, .int .i64 from_, .int .i64 s.lo, .int .i64 s.hi, .int .i64 s.held, .int .i64 s.hops, .bool s.good, .bool rd, .int .i64 slo, .int .i64 shi, .int .i64 (pulseS p s), .int .i64 (tickP s.st s.sn s.time).1, .int .i64 (tickP s.st s.sn s.time).2, .slice A' s.tab.length c']) ∧ w'.heap[g]? = some (.cells (.int .i64 p.N :: .int .i64 p.F :: .int .i64 p.D :: .int .i64 p.Be :: .int .i64 p.Rho :: .int .i64 p.De :: .int .i64 p.Ji :: .int .i64 p.Eps :: .int .i64 p.Mu :: .int .i64 p.Ho :: .int .i64 p.Pu :: .int .i64 p.Se :: .int .i64 s.lo :: .int .i64 s.hi :: .int .i64 s.time :: .bool s.set :: .int .i64 s.held :: .int .i64 s.hops :: .bool s.good :: .slice A s.tab.length c :: .int .i64 (tickP s.st s.sn s.time).1 :: .int .i64 (tickP s.st s.sn s.time).2 :: .int .i64 s.life :: me).toArray tG (0, 0)) ∧ w'.ownsRow w.heap.size 72 2 (.slice A' s.tab.length c') s.tab.length (flL s.tab) ∧ Chg (fun k => k = g) w w' := by
  have H := Fr.start1 (M := fun k => k = g) (A := fun _ => False) (p := fun W => Kd.C k72 W A s.tab.length s.tab) (fun _ h => h.elim) hg rfl (Tr.less hr (fun k _ q => q.resolve_left id))
  have KP : Hid (∀ W, W.heap[g]? = some (.cells (.int .i64 p.N :: .int .i64 p.F :: .int .i64 p.D :: .int .i64 p.Be :: .int .i64 p.Rho :: .int .i64 p.De :: .int .i64 p.Ji :: .int .i64 p.Eps :: .int .i64 p.Mu :: .int .i64 p.Ho :: .int .i64 p.Pu :: .int .i64 p.Se :: .int .i64 s.lo :: .int .i64 s.hi :: .int .i64 s.time :: .bool s.set :: .int .i64 s.held :: .int .i64 s.hops :: .bool s.good :: .slice A s.tab.length c :: .int .i64 s.st :: .int .i64 s.sn :: .int .i64 s.life :: me).toArray tG (0, 0)) → Calls Tryz.prog 86 #[.pointer (some ⟨g, 0, none⟩)] W fun e w' => e = .returned (.tuple #[.int .i64 (pulseS p s), .int .i64 (syncE (ofP p s.set s.good s.held s.hops))]) ∧ Below W.heap.size W w') := Lib.hid (fun W h => Pulse_calls (tG := tG) p s A c g me W h)
  have KS := Lib.hid (fun W h => Stamp_calls (tG := tG) p s A c g me W h)
  have HCL : Hid (∀ W, Kd.C k72 W A s.tab.length s.tab → Calls Tryz.prog 47 #[.slice A s.tab.length c] W fun e w' => ∃ u, e = .returned u ∧ w'.ownsRow W.heap.size 72 2 u s.tab.length (flL s.tab) ∧ Below W.heap.size W w') := Lib.hid (fun W h => Clone_calls A c s.tab W h hl)
  obtain ⟨pu, hpu⟩ : ∃ x, pulseS p s = x := ⟨_, rfl⟩
  obtain ⟨y, hy⟩ : ∃ x, syncE (ofP p s.set s.good s.held s.hops) = x := ⟨_, rfl⟩
  obtain ⟨⟨t1, t2⟩, ht⟩ : ∃ x, tickP s.st s.sn s.time = x := ⟨_, rfl⟩
  obtain ⟨lo, hi, time, set, held, hops, good, tab, st, sn, life⟩ := s
  obtain ⟨n, hn⟩ : ∃ x, tab.length = x := ⟨_, rfl⟩
  have HN := Lib.hid hn
  rw [hpu, hy] at KP
  rw [ht] at KS
  rw [hpu, ht]
  dsimp only at H KP KS HCL ⊢
  rw [hn] at H KP KS HCL ⊢
  clear hg hr hl hpu hy ht hn
  go_enter Tryz.func39, Tryz.ntmps39
  go_wp2_with (first
    | (go_at_call 86; (with_reducible refine (KP.out _ (H.of (by repeat (first | exact At.head | apply At.tail)))).mono ?_); rintro e w' ⟨rfl, hb⟩; have H1 := H.call hb; clear hb; replace H := H1; clear H1)
    | (go_at_call 87; (with_reducible refine (KS.out _ (H.of (by repeat (first | exact At.head | apply At.tail)))).mono ?_); rintro e w' ⟨rfl, hb, hc⟩; have H1 := H.turn (by repeat (first | exact At.head | apply At.tail)) hb hc; clear hb hc; replace H := H1; clear H1)
    | ((with_reducible refine gate_dst (N := 9) rfl ?_); refine nB H ?_; intro g9 w9 H1; replace H := H1)
    | ((with_reducible refine gate_dst (N := 10) rfl ?_); refine nA #[.int .i64 0, .int .i64 0, .int .i64 0, .int .i64 0, .int .i64 0, .int .i64 0, .bool false, .bool false, .int .i64 0, .int .i64 0, .int .i64 0, .int .i64 0, .int .i64 0, .slice none 0 0] 43 H ?_; intro g10 w10 H1; replace H := H1)
    | ((with_reducible refine gate_dst (N := 13) rfl ?_); refine nA #[.int .i64 0, .int .i64 0] 28 H ?_; intro g13 w13 H1; replace H := H1)
    | ((with_reducible refine gate_dst (N := 15) rfl ?_); refine nA #[.int .i64 0, .int .i64 0, .int .i64 0, .bool false, .int .i64 0, .int .i64 0, .bool false, .slice none 0 0, .int .i64 0, .int .i64 0, .int .i64 0] 30 H ?_; intro g15 w15 H1; replace H := H1)
    | ((with_reducible refine gS rfl ?_); refine xS H ?_; intro w_ H1; replace H := H1)
    | ((with_reducible refine gL rfl ?_); refine xL H ?_)
    | fail)
  refine ro_start (Frs _ _ _ _ _) [18] [0, 1, 2, 3, 4, 5, 6, 7, 8, 9, 10, 11, 12, 13, 14, 15, 16, 17, 18] 19 (by kernel_rfl) (by rfl) (by simp only [pickR, List.getElem?_cons_succ, List.getElem?_cons_zero]; rfl) (by rfl) (H.drewN 1) (fun HS => ?_)
  have H1 : Fr _ _ _ _ _ _ := HS
  clear HS H
  have H := H1
  clear H1
  repeat ((first
    | ((with_reducible refine rz_call (f := 47) rfl ?_); refine ro_call 47 _ rfl (by kernel_rfl) (by kernel_rfl) (by rfl) Tryz.func47 (by kernel_rfl) rfl (by simp only [List.map_toArray, List.map_cons, List.map_nil]; rfl) ?_; (refine (HCL.out _ H.now).mono ?_); rintro e w' ⟨u, rfl, ho, hb⟩; obtain ⟨A1, c1, rfl, hc1, _⟩ := row_C ho HN.out; have HT := Tr_row H.avs H.chg.size ho; have H2 := H.call2 hb HT; have H1 := H.call hb; refine ⟨_, rfl, H1, fun _ => ?_⟩; clear hb ho HT H1 H; have H := H2; clear H2; (try simp only [Act.put, lsA, lsZ, lsS, Nat.reduceAdd]))
    | ((with_reducible refine rz_load rfl ?_); refine zL H ?_)
    | ((with_reducible refine rz_store rfl ?_); refine zS H ?_; intro w1 H1; replace H := H1)
    | (refine zO ?_)
    | (refine zP ?_)); (try simp only [Act.put, lsA, lsZ, lsS, Nat.reduceAdd]))
  refine ro_done (by kernel_rfl) ?_
  go_wp2
  refine bodyPost_ret (results_c rfl _ _ g10 43 _ (0, 0) _ rfl (H.of (by repeat (first | exact At.head | apply At.tail))) Tryz.underlying43 rfl (by kernel_rfl)) rfl ?_
  exact ⟨A1, c1, rfl, H.of (by repeat (first | exact At.head | apply At.tail)), H.now.2, H.chg⟩
end Go.Proofs.YtdaohldmojpihaaGreatDoor.G

namespace Go.Proofs.YtdaohldmojpihaaGreatDoor.G
open Go.RowKit Go.Proofs.YtdaohldmojpihaaGreatDoorW.PrintWords Go.Proofs.YtdaohldmojpihaaGreatDoorW.PrintLast Go.Proofs.YtdaohldmojpihaaGreatDoorW.PrintMore Go.Proofs.YtdaohldmojpihaaGreatDoorPl Go.Proofs.YtdaohldmojpihaaGreatDoorEm Go.Proofs.YtdaohldmojpihaaGreatDoorKr Go.Proofs.YtdaohldmojpihaaGreatDoorRz Go.Proofs.YtdaohldmojpihaaGreatDoor.X
set_option linter.unusedVariables false
set_option linter.unusedSimpArgs false
structure Inp where
  ticks : Int
  heard : List Hd
  ref : Bool
  reading : Int
  given : Bool
  tab : List Lp
def flS (l : List Sp) : List Value := l.flatMap (fun x => [.int .i64 x.f0, .int .i64 x.f1])
theorem flS_snoc (l : List Sp) (x : Sp) : flS (l ++ [x]) = flS l ++ [.int .i64 x.f0, .int .i64 x.f1] := by unfold flS; rw [List.flatMap_append]; simp
theorem flS_one (a b : Int) : ∀ u ∈ [Value.int .i64 a, .int .i64 b], u.oneCell' = true := by
  intro u hu
  simp at hu
  rcases hu with rfl | rfl <;> rfl
theorem flS_at : ∀ (l : List Sp) (j i : Nat) (q : Sp) (u : Value), l[j]? = some q → [Value.int .i64 q.f0, .int .i64 q.f1][i]? = some u → (flS l)[j * 2 + i]? = some u
  | [], j, i, q, u, h, _ => by simp at h
  | x :: l, 0, i, q, u, h, hu => by
    simp at h
    subst h
    rw [show 0 * 2 + i = i by omega]
    show ([Value.int .i64 x.f0, .int .i64 x.f1] ++ flS l)[i]? = some u
    rw [List.getElem?_append_left (List.getElem?_eq_some_iff.1 hu).1]
    exact hu
  | x :: l, j + 1, i, q, u, h, hu => by
    have := flS_at l j i q u (by simpa using h) hu
    rw [show (j + 1) * 2 + i = j * 2 + i + 1 + 1 by omega]
    exact this
theorem rowS_C {W : World} {b n c : Nat} {A : Option Addr} {l : List Sp} (h : W.ownsRow b 25 2 (.slice A n c) n (flS l)) (hn : l.length = n) : n ≤ c ∧ Kd.C k25 W A n l := by
  obtain ⟨h1, h2 | ⟨g, cap, cur, h2, h3, h4, h5, h6, h7, h8⟩⟩ := h
  · obtain ⟨h2, h3⟩ := h2
    injection h2 with e1 e2 e3
    exact ⟨by omega, ⟨hn, by omega, fun h => by omega⟩⟩
  · injection h2 with e1 e2 e3
    subst e1 e3
    refine ⟨h5, ⟨hn, by unfold maxLen at h6; omega, fun _ => ⟨_, rfl, fun j q hq => ?_⟩⟩⟩
    refine ⟨[.int .i64 q.f0, .int .i64 q.f1], rfl, k25_mk W q, fun i u hu => ?_⟩
    have hj : j < l.length := (List.getElem?_eq_some_iff.1 hq).1
    have hi : i < 2 := (List.getElem?_eq_some_iff.1 hu).1
    show W.cell? ((⟨g, 0, none⟩ : Addr).add (j * 2 + i)) = _
    rw [show ((⟨g, 0, none⟩ : Addr).add (j * 2 + i)) = ⟨g, j * 2 + i, none⟩ by
      unfold Addr.add
      split
      · rename_i h0; simp at h0; obtain ⟨e1, e2⟩ := h0; rw [show j * 2 + i = 0 by omega]
      · simp, blk_cell h4]
    have e : (flS l)[j * 2 + i]? = some u := flS_at l j i q u hq hu
    rw [← h8, List.getElem?_take] at e
    split at e
    · simpa using e
    · cases e
theorem infoS : (Tryz.prog.info? 25).map (fun i => (i.zero, i.size, i.bytes)) = some (some (.agg #[.int .i64 0, .int .i64 0]), 2, 16) := by kernel_rfl
theorem Fr.appended2 {M A : Nat → Prop} {w W W1 : World} {bl : List (Nat × Obj)} {p q : World → Prop} {e : TypeId} {sz n c : Nat} {Ao : Option Addr} {xs : List Value} (H : Fr M A w W bl q) (hM : ∀ k, M k → A k) (hp0 : Tr A w p) (hO : W.ownsRow w.heap.size e sz (.slice Ao n c) n xs) (hne : ∀ x, x ∈ bl → ∀ ad, Ao = some ad → x.1 ≠ ad.block) (hg : W.grownBy W1 (Value.slice Ao n c).ownBlock) : Fr M A w W1 bl p := by
  have hb : ∀ k, (Value.slice Ao n c).ownBlock = some k → ∃ ad, Ao = some ad ∧ ad.block = k := fun k hk => by
    cases Ao with
    | none => cases hk
    | some ad => exact ⟨ad, rfl, by injection hk⟩
  have hr : ∀ k, (Value.slice Ao n c).ownBlock = some k → w.heap.size ≤ k ∧ ¬ Of bl k := fun k hk => by
    obtain ⟨ad, e1, rfl⟩ := hb k hk
    exact ⟨(own_lo hO ad e1).1, fun ⟨x, hx, e2⟩ => hne x hx ad e1 e2⟩
  have hold : ∀ k, Of bl k → k < w.heap.size → A k := fun k ⟨x, hx, e1⟩ hk => by
    rcases (H.blk x hx).2 with q | q
    · omega
    · exact hM k (e1 ▸ q)
  have H1 : Fr M A w W bl p := ⟨H.av, H.chg, H.blk, H.nd, Tr.later hp0 H.chg hM (fun k hk hl => hk.elim id (fun h => hold k h hl))⟩
  refine Fr.grow H1 hg hr (Tr.later hp0 H.chg hM (fun k hk hl => ?_))
  rcases hk with (hk | hk) | hk
  · exact hk
  · exact hold k hk hl
  · have := (hr k hk).1
    omega
theorem own_apart {W : World} {b b' : Nat} {e e' : TypeId} {sz n sz' n' : Nat} {v v' : Value} {xs xs' : List Value} (h : W.ownsRow b e sz v n xs) (h' : W.ownsRow b' e' sz' v' n' xs') (he : e ≠ e') : ∀ k, v.ownBlock = some k → some k ≠ v'.ownBlock := by
  intro k hk hk'
  rcases h.2 with ⟨rfl, _⟩ | ⟨g, cap, cur, rfl, h3, h4, h5⟩
  · cases hk
  · rcases h'.2 with ⟨rfl, _⟩ | ⟨g', cap', cur', rfl, h3', h4', h5'⟩
    · cases hk'
    · have e1 : g = k := by injection hk
      have e2 : k = g' := by injection hk'
      subst e1 e2
      rw [h4] at h4'
      injection h4' with h4'
      injection h4' with _ h4'
      exact he h4'
end Go.Proofs.YtdaohldmojpihaaGreatDoor.G

namespace Go.Proofs.YtdaohldmojpihaaGreatDoor.G
open Go.RowKit Go.Proofs.YtdaohldmojpihaaGreatDoorW.PrintWords Go.Proofs.YtdaohldmojpihaaGreatDoorW.PrintLast Go.Proofs.YtdaohldmojpihaaGreatDoorW.PrintMore Go.Proofs.YtdaohldmojpihaaGreatDoorPl Go.Proofs.YtdaohldmojpihaaGreatDoorEm Go.Proofs.YtdaohldmojpihaaGreatDoorKr Go.Proofs.YtdaohldmojpihaaGreatDoorRz Go.Proofs.YtdaohldmojpihaaGreatDoor.X
set_option linter.unusedVariables false
set_option linter.unusedSimpArgs false
theorem own_shapeO {W : World} {b : Nat} {e : TypeId} {sz n : Nat} {v : Value} {xs : List Value} (h : W.ownsRow b e sz v n xs) : ∃ A c, v = .slice A n c := by
  rcases h.2 with ⟨h2, h3⟩ | ⟨g, cap, cur, h2, _⟩
  · exact ⟨none, 0, by rw [h2, h3]⟩
  · exact ⟨_, cap, h2⟩
structure OR where
  e : TypeId
  sz : Nat
  A : Option Addr
  n : Nat
  c : Nat
  xs : List Value
def OR.val (r : OR) : Value := .slice r.A r.n r.c
def OR.own (r : OR) (b : Nat) (W : World) : Prop := W.ownsRow b r.e r.sz r.val r.n r.xs
def owns (b : Nat) (rs : List OR) (W : World) : Prop := ∀ r ∈ rs, r.own b W
theorem owns_at {b : Nat} {rs : List OR} {r : OR} {W : World} (h : owns b rs W) (hr : r ∈ rs) : r.own b W := h r hr
theorem owns_cons {b : Nat} {r : OR} {rs : List OR} {W : World} : owns b (r :: rs) W ↔ r.own b W ∧ owns b rs W :=
  ⟨fun h => ⟨h r List.mem_cons_self, fun q hq => h q (List.mem_cons_of_mem _ hq)⟩, fun h q hq => by
    rcases List.mem_cons.1 hq with rfl | hq
    · exact h.1
    · exact h.2 q hq⟩
theorem own_out {D : Nat → Prop} {W : World} {p : World → Prop} (H : Tr D W p) {r : OR} {b : Nat} (hp : ∀ W', p W' → r.own b W') {k : Nat} (hk : r.val.ownBlock = some k) : ¬ D k := by
  intro hD
  have h0 := hp W (Foot.now H)
  obtain ⟨_, ⟨h2, _⟩ | ⟨g, cap, cur, h2, h3, h4, h5⟩⟩ := h0
  · rw [h2] at hk; cases hk
  · rw [h2] at hk
    have e1 : g = k := by injection hk
    subst e1
    have hlt := Go.Proofs.YtdaohldmojpihaaGreatDoorEm.obj_lt h4
    have h6 := hp _ (H { W with heap := W.heap.setIfInBounds g (.map #[] 0) } (fun j hj hl => by
      have hne : g ≠ j := fun e => hj (e ▸ hD)
      show (W.heap.setIfInBounds g (.map #[] 0))[j]? = W.heap[j]?
      rw [Array.getElem?_setIfInBounds_ne hne]))
    obtain ⟨_, ⟨q2, _⟩ | ⟨g', cap', cur', q2, _, q4, _⟩⟩ := h6
    · rw [h2] at q2; cases q2
    · rw [h2] at q2
      have e2 : g = g' := by injection q2 with e; injection e with e; injection e
      subst e2
      have e3 : (W.heap.setIfInBounds g (.map #[] 0))[g]? = some (.map #[] 0) := by rw [Array.getElem?_setIfInBounds_self_of_lt hlt]
      have q4' : (W.heap.setIfInBounds g (.map #[] 0))[g]? = some (.cells cur' r.e (0, 0)) := q4
      rw [e3] at q4'
      cases q4'
theorem Tr_ownR {D : Nat → Prop} {W : World} {b b' : Nat} {r : OR} (h : r.own b W) (hb : b' ≤ b) (hD : ∀ k, r.val.ownBlock = some k → ¬ D k) : Tr D W (fun W1 => r.own b' W1) :=
  Tr_own h hb (fun k ad hk e e2 => hD ad.block (by unfold OR.val; rw [e]; rfl) (e2 ▸ hk))
theorem own_lt {b : Nat} {r : OR} {W : World} (h : r.own b W) {k : Nat} (hk : r.val.ownBlock = some k) : b ≤ k ∧ k < W.heap.size := by
  obtain ⟨ad, e, e2⟩ : ∃ ad, r.A = some ad ∧ ad.block = k := by
    unfold OR.val at hk
    cases hA : r.A with
    | none => rw [hA] at hk; cases hk
    | some ad => rw [hA] at hk; exact ⟨ad, rfl, by injection hk⟩
  rw [← e2]
  exact own_lo h ad e
theorem Fr.growO {M A D : Nat → Prop} {w W W1 : World} {bl : List (Nat × Obj)} {p : World → Prop} {rs rs' : List OR} {r r' : OR} (H : Fr M A w W bl (fun W => p W ∧ owns w.heap.size rs W)) (hp0 : Tr D w p) (hM : ∀ k, M k → D k) (hA : ∀ k, A k → D k) (hr : r ∈ rs) (hrs : ∀ q ∈ rs', q = r' ∨ (q ∈ rs ∧ q.e ≠ r.e)) (hn : r'.own w.heap.size W1) (hb : r'.val.ownBlock = r.val.ownBlock ∨ r'.val.ownBlock = some W.heap.size) (hg : W.grownBy W1 r.val.ownBlock) : Fr M A w W1 bl (fun W => p W ∧ owns w.heap.size rs' W) := by
  have hT := H.tr
  have hro : ∀ k, r.val.ownBlock = some k → w.heap.size ≤ k ∧ ¬ (A k ∨ Of bl k) := fun k hk => ⟨(own_lt (H.now.2 r hr) hk).1, own_out hT (fun W' h => h.2 r hr) hk⟩
  have hold : ∀ k, (A k ∨ Of bl k) → k < w.heap.size → D k := fun k hk hl => by
    rcases hk with hk | ⟨x, hx, e⟩
    · exact hA k hk
    · rcases (H.blk x hx).2 with q | q
      · omega
      · exact hM k (e ▸ q)
  have hne : ∀ q ∈ rs, q.e ≠ r.e → ∀ k, q.val.ownBlock = some k → some k ≠ r.val.ownBlock := fun q hq he => own_apart (H.now.2 q hq) (H.now.2 r hr) he
  have H1 : Fr M A w W bl (fun W => p W ∧ owns w.heap.size (rs.filter (fun q => q.e != r.e)) W) := H.imp (fun W' h => ⟨h.1, fun q hq => h.2 q (List.mem_filter.1 hq).1⟩)
  have hp1 : Tr (fun k => (A k ∨ Of bl k) ∨ r.val.ownBlock = some k) W (fun W => p W ∧ owns w.heap.size (rs.filter (fun q => q.e != r.e)) W) := by
    refine Tr.and (Tr.later hp0 H.chg hM (fun k hk hl => ?_)) ?_
    · rcases hk with hk | hk
      · exact hold k hk hl
      · have := (hro k hk).1; omega
    · intro W' hW q hq
      obtain ⟨hq1, hq2⟩ := List.mem_filter.1 hq
      have hq2 : q.e ≠ r.e := by simpa using hq2
      exact Tr_ownR (H.now.2 q hq1) (Nat.le_refl _) (fun k hk hD => hD.elim (own_out hT (fun W' h => h.2 q hq1) hk) (fun e => hne q hq1 hq2 k hk e.symm)) W' hW
  have H2 := Fr.grow H1 hg (fun k hk => ⟨(hro k hk).1, fun h => (hro k hk).2 (.inr h)⟩) hp1
  have hnew : Tr (fun k => A k ∨ Of bl k) W1 (fun W => r'.own w.heap.size W) := Tr_ownR hn (Nat.le_refl _) (fun k hk hD => by
    rcases hb with hb | hb
    · exact (hro k (hb ▸ hk)).2 hD
    · rw [hb] at hk
      have e : W.heap.size = k := by injection hk
      rcases hD with hD | ⟨x, hx, e2⟩
      · have := H.avs k (.inl hD); omega
      · have := H.avs k (.inr ⟨x, hx, e2⟩); omega)
  exact (H2.and hnew).imp (fun W' h => ⟨h.1.1, fun q hq => by
    rcases hrs q hq with rfl | ⟨h1, h2⟩
    · exact h.2
    · exact h.1.2 q (List.mem_filter.2 ⟨h1, by simpa using h2⟩)⟩)
theorem Fr.joinO {M A : Nat → Prop} {w W W1 : World} {bl : List (Nat × Obj)} {p : World → Prop} {rs : List OR} {r : OR} (H : Fr M A w W bl (fun W => p W ∧ owns w.heap.size rs W)) (hb : Below W.heap.size W W1) (hn : r.own W.heap.size W1) : Fr M A w W1 bl (fun W => p W ∧ owns w.heap.size (r :: rs) W) := by
  refine (H.call2 hb (Tr_ownR hn H.chg.size (fun k hk hD => ?_))).imp (fun W' h => ⟨h.1.1, owns_cons.2 ⟨h.2, h.1.2⟩⟩)
  have := (own_lt hn hk).1
  have := H.avs k hD
  omega
theorem Fr.starts {M A : Nat → Prop} {w W : World} {bl : List (Nat × Obj)} {p : World → Prop} (H : Fr M A w W bl p) : Fr M A w W bl (fun W => p W ∧ owns w.heap.size [] W) := H.imp (fun W h => ⟨h, fun r hr => by cases hr⟩)
theorem Fr.emptyO {M A : Nat → Prop} {w W : World} {bl : List (Nat × Obj)} {p : World → Prop} {rs : List OR} (e : TypeId) (sz : Nat) (H : Fr M A w W bl (fun W => p W ∧ owns w.heap.size rs W)) : Fr M A w W bl (fun W => p W ∧ owns w.heap.size (⟨e, sz, none, 0, 0, []⟩ :: rs) W) := H.imp (fun W h => ⟨h.1, owns_cons.2 ⟨World.ownsRow_nil _ _ _ _, h.2⟩⟩)
def RowT (P : Program) (t e : TypeId) (sz bytes : Nat) : Prop := ∃ ti z, P.underlying t = some (.slice e) ∧ P.info? e = some ti ∧ ti.zero = some z ∧ ti.size = sz ∧ ti.bytes = bytes ∧ z.cells.size = sz ∧ 0 < sz
section
variable {P : Program} {ops : Array Oper} {Q : Exit → Act → World → Prop} {S : World → Prop} {ds : List Nat} {n : Nat} {dn : List Nat} {M A D : Nat → Prop} {w W : World} {bl : List (Nat × Obj)} {p : World → Prop} {r1 r2 : OR} {rx : List OR} {cs1 cs2 : List Value} {wv z1 z2 z3 z4 z5 : Value}
def OR.more (r : OR) (A : Option Addr) (c : Nat) (news : List Value) : OR := ⟨r.e, r.sz, A, r.n + 1, c, r.xs ++ news⟩
def one1 (x : Nat) : Value := .slice (some ⟨x, 0, none⟩) 1 1
def Ch1 (wv z1 z2 z3 : Value) (cs : List Value) (r : OR) : Nat → Value → Value → Value → World → OR → Prop
  | 0, v1, v2, v3, _, q => v1 = z1 ∧ v2 = z2 ∧ v3 = z3 ∧ q = r
  | 1, v1, v2, v3, _, q => v1 = wv ∧ v2 = z2 ∧ v3 = z3 ∧ q = r
  | 2, v1, v2, v3, W, q => v1 = wv ∧ v3 = z3 ∧ q = r ∧ ∃ x, v2 = one1 x ∧ W.heap[x]? = some (.cells cs.toArray r.e (0, 0))
  | _, v1, v2, v3, _, q => v1 = wv ∧ ∃ A c, v3 = .slice A (r.n + 1) c ∧ q = r.more A c cs
def Ch2 (z4 z5 : Value) (cs : List Value) (r : OR) : Nat → Value → Value → World → OR → Prop
  | 0, v1, v2, _, q => v1 = z4 ∧ v2 = z5 ∧ q = r
  | 1, v1, v2, W, q => v2 = z5 ∧ q = r ∧ ∃ x, v1 = one1 x ∧ W.heap[x]? = some (.cells cs.toArray r.e (0, 0))
  | _, v1, v2, _, q => ∃ A c, v2 = .slice A (r.n + 1) c ∧ q = r.more A c cs
theorem blk_below {W W' : World} {x : Nat} {o : Obj} (h : W.heap[x]? = some o) (hb : Below W.heap.size W W') : W'.heap[x]? = some o := (hb.block x (Go.Proofs.YtdaohldmojpihaaGreatDoorEm.obj_lt h)).trans h
theorem Ch1.keep {i : Nat} {v1 v2 v3 : Value} {W W' : World} {q : OR} (h : Ch1 wv z1 z2 z3 cs1 r1 i v1 v2 v3 W q) (hk : ∀ x : Nat, W.heap[x]? = some (Obj.cells cs1.toArray r1.e (0, 0)) → W'.heap[x]? = some (Obj.cells cs1.toArray r1.e (0, 0))) : Ch1 wv z1 z2 z3 cs1 r1 i v1 v2 v3 W' q := by
  match i, h with
  | 0, h => exact h
  | 1, h => exact h
  | 2, ⟨h1, h2, h3, x, h4, h5⟩ => exact ⟨h1, h2, h3, x, h4, hk x h5⟩
  | _ + 3, h => exact h
theorem Ch2.keep {i : Nat} {v1 v2 : Value} {W W' : World} {q : OR} (h : Ch2 z4 z5 cs2 r2 i v1 v2 W q) (hk : ∀ x : Nat, W.heap[x]? = some (Obj.cells cs2.toArray r2.e (0, 0)) → W'.heap[x]? = some (Obj.cells cs2.toArray r2.e (0, 0))) : Ch2 z4 z5 cs2 r2 i v1 v2 W' q := by
  match i, h with
  | 0, h => exact h
  | 1, ⟨h1, h2, x, h4, h5⟩ => exact ⟨h1, h2, x, h4, hk x h5⟩
  | _ + 2, h => exact h
theorem Ch1.e {i : Nat} {v1 v2 v3 : Value} {W : World} {q : OR} (h : Ch1 wv z1 z2 z3 cs1 r1 i v1 v2 v3 W q) : q.e = r1.e := by
  match i, h with
  | 0, ⟨_, _, _, h⟩ => rw [h]
  | 1, ⟨_, _, _, h⟩ => rw [h]
  | 2, ⟨_, _, h, _⟩ => rw [h]
  | _ + 3, ⟨_, _, _, _, h⟩ => rw [h]; rfl
theorem Ch2.e {i : Nat} {v1 v2 : Value} {W : World} {q : OR} (h : Ch2 z4 z5 cs2 r2 i v1 v2 W q) : q.e = r2.e := by
  match i, h with
  | 0, ⟨_, _, h⟩ => rw [h]
  | 1, ⟨_, h, _⟩ => rw [h]
  | _ + 2, ⟨_, _, _, h⟩ => rw [h]; rfl
theorem blk_grown {W W' : World} {b x : Nat} {q : OR} {cs : Array Value} {e : TypeId} (h : W.heap[x]? = some (.cells cs e (0, 0))) (ho : q.own b W) (he : e ≠ q.e) (hg : W.grownBy W' q.val.ownBlock) : W'.heap[x]? = some (.cells cs e (0, 0)) := by
  refine (hg.block x (Go.Proofs.YtdaohldmojpihaaGreatDoorEm.obj_lt h) (fun e2 => ?_)).trans h
  obtain ⟨_, ⟨h2, _⟩ | ⟨g, cap, cur, h2, h3, h4, h5⟩⟩ := ho
  · rw [h2] at e2; cases e2
  · rw [h2] at e2
    have e3 : x = g := by injection e2
    subst e3
    rw [h] at h4
    injection h4 with h4
    injection h4 with _ h4
    exact he h4
def acA (a : Act) (N1 N2 N3 N4 N5 : Tmp) (v1 v2 v3 v4 v5 : Value) : Act := ((((a.put (some N1) v1).put (some N2) v2).put (some N3) v3).put (some N4) v4).put (some N5) v5
theorem own_val {r : OR} {b : Nat} {W : World} (h : r.own b W) : W.ownsRow b r.e r.sz r.val r.n r.xs := h
theorem ro_app2 (N1 N2 N3 N4 N5 : Tmp) (ic ib1 ia1 ib2 ia2 : Nat) {a : Act} {oc ob1 oa1 ob2 oa2 : Oper} {rest r : List (Nat × Oper)} (H : Fr M A w W bl (fun W => p W ∧ owns w.heap.size (r1 :: r2 :: rx) W)) (hp0 : Tr D w p) (hM : ∀ k, M k → D k) (hA : ∀ k, A k → D k)
    (hrest : rest = (ic, oc) :: (ib1, ob1) :: (ia1, oa1) :: (ib2, ob2) :: (ia2, oa2) :: r := by rfl) (hB : okC ops n [ic, ib1, ia1] [ib2] dn = true := by kernel_rfl) (hB2 : readyB .any ops (mk n (ldC [ic, ib1, ia1] [ib2] dn 3 1)) (mk n (ia2 :: ldC [ic, ib1, ia1] [ib2] dn 3 1)) ia2 = true := by kernel_rfl) (hds : ds.contains ia2 = false := by rfl)
    (hS : ∀ W, Fr M A w W bl p → S W) (he : r1.e ≠ r2.e := by decide) (hx : ∀ q ∈ rx, q.e ≠ r1.e ∧ q.e ≠ r2.e)
    (ha : acA a N1 N2 N3 N4 N5 z1 z2 z3 z4 z5 = a := by simp only [acA, Act.put, lsA, lsZ, lsS, Nat.reduceAdd])
    (wc : ∀ v4 v5, Region.wanted oc (yielded ops (acA a N1 N2 N3 N4 N5 z1 z2 z3 v4 v5).tmps) = true := by intros; rfl) (wb1 : ∀ v4 v5, Region.wanted ob1 (yielded ops (acA a N1 N2 N3 N4 N5 wv z2 z3 v4 v5).tmps) = true := by intros; rfl) (wa1 : ∀ v2 v4 v5, Region.wanted oa1 (yielded ops (acA a N1 N2 N3 N4 N5 wv v2 z3 v4 v5).tmps) = true := by intros; rfl) (wb2 : ∀ v1 v2 v3, Region.wanted ob2 (yielded ops (acA a N1 N2 N3 N4 N5 v1 v2 v3 z4 z5).tmps) = true := by intros; rfl) (wa2 : ∀ v1 v2 v3 v4, Region.wanted oa2 (yielded ops (acA a N1 N2 N3 N4 N5 v1 v2 v3 v4 z5).tmps) = true := by intros; rfl)
    (pc : ∀ v v4 v5, (acA a N1 N2 N3 N4 N5 z1 z2 z3 v4 v5).put oc.dst v = acA a N1 N2 N3 N4 N5 v z2 z3 v4 v5 := by intros; simp only [acA, Act.put, lsA, lsZ, lsS, Nat.reduceAdd]) (pb1 : ∀ v v4 v5, (acA a N1 N2 N3 N4 N5 wv z2 z3 v4 v5).put ob1.dst v = acA a N1 N2 N3 N4 N5 wv v z3 v4 v5 := by intros; simp only [acA, Act.put, lsA, lsZ, lsS, Nat.reduceAdd]) (pa1 : ∀ v2 v v4 v5, (acA a N1 N2 N3 N4 N5 wv v2 z3 v4 v5).put oa1.dst v = acA a N1 N2 N3 N4 N5 wv v2 v v4 v5 := by intros; simp only [acA, Act.put, lsA, lsZ, lsS, Nat.reduceAdd]) (pb2 : ∀ v1 v2 v3 v, (acA a N1 N2 N3 N4 N5 v1 v2 v3 z4 z5).put ob2.dst v = acA a N1 N2 N3 N4 N5 v1 v2 v3 v z5 := by intros; simp only [acA, Act.put, lsA, lsZ, lsS, Nat.reduceAdd]) (pa2 : ∀ v1 v2 v3 v4 v, (acA a N1 N2 N3 N4 N5 v1 v2 v3 v4 z5).put oa2.dst v = acA a N1 N2 N3 N4 N5 v1 v2 v3 v4 v := by intros; simp only [acA, Act.put, lsA, lsZ, lsS, Nat.reduceAdd])
    (kc : ∀ v4 v5 W (K : Act → World → Prop), Fr M A w W bl p → (∀ W', Below W.heap.size W W' → K ((acA a N1 N2 N3 N4 N5 z1 z2 z3 v4 v5).put oc.dst wv) W') → Oper.wp P oc (acA a N1 N2 N3 N4 N5 z1 z2 z3 v4 v5) W K Q)
    (kb1 : ∀ v4 v5 W (K : Result Next → Prop), Hid (K (.ok (.value (.slice (some ⟨W.heap.size, 0, none⟩) 1 1)) (W.alloc (.cells cs1.toArray r1.e (0, 0))))) → K ((execOp (acA a N1 N2 N3 N4 N5 wv z2 z3 v4 v5).eval ob1).run P W) := by intro v4 v5 W K hK; simp only [acA, Act.put, lsA, lsZ, lsS, Nat.reduceAdd]; go_simp; exact hK.out)
    (kb2 : ∀ v1 v2 v3 W (K : Result Next → Prop), Hid (K (.ok (.value (.slice (some ⟨W.heap.size, 0, none⟩) 1 1)) (W.alloc (.cells cs2.toArray r2.e (0, 0))))) → K ((execOp (acA a N1 N2 N3 N4 N5 v1 v2 v3 z4 z5).eval ob2).run P W) := by intro v1 v2 v3 W K hK; simp only [acA, Act.put, lsA, lsZ, lsS, Nat.reduceAdd]; go_simp; exact hK.out)
    (s1 x1 s2 x2 : Operand) (t1 t2 : TypeId) {by1 by2 : Nat} (oa1_ : oa1.op = .call { callee := .builtin .append, args := #[s1, x1], argTypes := #[t1, t1] } := by rfl) (oa2_ : oa2.op = .call { callee := .builtin .append, args := #[s2, x2], argTypes := #[t2, t2] } := by rfl) (ht1 : RowT P t1 r1.e r1.sz by1) (ht2 : RowT P t2 r2.e r2.sz by2)
    (es1 : ∀ v2 v4 v5, (acA a N1 N2 N3 N4 N5 wv v2 z3 v4 v5).eval s1 = r1.val := by intros; simp only [acA, Act.put, lsA, lsZ, lsS, Nat.reduceAdd]; rfl) (ex1 : ∀ v2 v4 v5, (acA a N1 N2 N3 N4 N5 wv v2 z3 v4 v5).eval x1 = v2 := by intros; simp only [acA, Act.put, lsA, lsZ, lsS, Nat.reduceAdd]; rfl) (es2 : ∀ v1 v2 v3 v4, (acA a N1 N2 N3 N4 N5 v1 v2 v3 v4 z5).eval s2 = r2.val := by intros; simp only [acA, Act.put, lsA, lsZ, lsS, Nat.reduceAdd]; rfl) (ex2 : ∀ v1 v2 v3 v4, (acA a N1 N2 N3 N4 N5 v1 v2 v3 v4 z5).eval x2 = v4 := by intros; simp only [acA, Act.put, lsA, lsZ, lsS, Nat.reduceAdd]; rfl)
    (hl1 : cs1.length = r1.sz := by rfl) (hl2 : cs2.length = r2.sz := by rfl) (ho1 : ∀ q ∈ cs1, q.oneCell' = true) (ho2 : ∀ q ∈ cs2, q.oneCell' = true) (hm1 : r1.n + 1 ≤ maxLen ∧ (r1.n + 1) * by1 ≤ 140737488355328) (hm2 : r2.n + 1 ≤ maxLen ∧ (r2.n + 1) * by2 ≤ 140737488355328)
    (hend : ∀ v2 v4 A1 c1 A2 c2 W, Fr M A w W bl (fun W => p W ∧ owns w.heap.size (r1.more A1 c1 cs1 :: r2.more A2 c2 cs2 :: rx) W) → RO P ops Q S ds n (ia2 :: ldC [ic, ib1, ia1] [ib2] dn 3 1) r (acA a N1 N2 N3 N4 N5 wv v2 (.slice A1 (r1.n + 1) c1) v4 (.slice A2 (r2.n + 1) c2)) W) : RO P ops Q S ds n dn rest a W := by
  have hw : ∀ {q1 q2 : OR} {W : World}, Fr M A w W bl (fun W => p W ∧ owns w.heap.size (q1 :: q2 :: rx) W) → Fr M A w W bl p := fun h => h.imp (fun _ h => h.1)
  refine ro_chains [ic, ib1, ia1] [ib2] (rest := rest) (r := (ia2, oa2) :: r) 4 (fun i j a' W' => ∃ v1 v2 v3 v4 v5 q1 q2, a' = acA a N1 N2 N3 N4 N5 v1 v2 v3 v4 v5 ∧ Ch1 wv z1 z2 z3 cs1 r1 i v1 v2 v3 W' q1 ∧ Ch2 z4 z5 cs2 r2 j v4 v5 W' q2 ∧ Fr M A w W' bl (fun W => p W ∧ owns w.heap.size (q1 :: q2 :: rx) W)) hB (by rw [hrest]; first | done | rfl) (by rw [hrest]; simp only [List.length_cons, List.length_nil]; omega) ?_ ?_ ?_ ⟨z1, z2, z3, z4, z5, r1, r2, ha.symm, ⟨rfl, rfl, rfl, rfl⟩, ⟨rfl, rfl, rfl⟩, H⟩ ?_
  · rintro i j a' W' ⟨_, _, _, _, _, _, _, _, _, _, h⟩
    exact hS _ (hw h)
  · rintro i x j a' W' hi hj ⟨v1, v2, v3, v4, v5, q1, q2, rfl, h1, h2, h⟩
    match i, hi, h1 with
    | 0, hi, ⟨e1, e2, e3, e4⟩ =>
      obtain rfl : ic = x := by simpa using hi
      subst e1 e2 e3 e4
      refine ⟨oc, by rw [hrest]; simp, wc _ _, fun K hK => kc _ _ _ _ (hw h) (fun W1 hb => hK _ _ ?_)⟩
      rw [pc]
      exact ⟨_, _, _, _, _, _, _, rfl, ⟨rfl, rfl, rfl, rfl⟩, Ch2.keep h2 (fun x hx => blk_below hx hb), h.call hb⟩
    | 1, hi, ⟨e1, e2, e3, e4⟩ =>
      obtain rfl : ib1 = x := by simpa using hi
      subst e1 e2 e3 e4
      refine ⟨ob1, by rw [hrest]; simp, wb1 _ _, fun K hK => wp_rowv (kb1 _ _ _) (fun W1 hc hb => hK _ _ ?_)⟩
      rw [pb1]
      exact ⟨_, _, _, _, _, _, _, rfl, ⟨rfl, rfl, rfl, _, rfl, hc⟩, Ch2.keep h2 (fun x hx => blk_below hx hb), h.call hb⟩
    | 2, hi, ⟨e1, e3, e4, y, e5, hy⟩ =>
      obtain rfl : ia1 = x := by simpa using hi
      subst e1 e3 e4 e5
      obtain ⟨ti, z, g1, g2, g3, g4, g5, g6, g7⟩ := ht1
      refine ⟨oa1, by rw [hrest]; simp, wa1 _ _ _, fun K hK => wp_append s1 x1 t1 oa1_ w.heap.size q1.e ti z q1.sz by1 g1 g2 g3 g4 g5 g6 g7 q1.val q1.n q1.xs (es1 _ _ _) (own_val (h.now.2 q1 List.mem_cons_self)) ⟨y, 0, none⟩ 1 1 cs1 (ex1 _ _ _) (by rw [hl1, Nat.one_mul]) (new_cells hy) ho1 hm1.1 hm1.2 h.chg.size (fun v' W1 hown hg hat => hK _ _ ?_)⟩
      rw [pa1]
      obtain ⟨A', c', rfl⟩ := own_shapeO hown
      have hF := Fr.growO (r := q1) (r' := q1.more A' c' cs1) (rs' := q1.more A' c' cs1 :: q2 :: rx) h hp0 hM hA List.mem_cons_self (fun q hq => by
        rcases List.mem_cons.1 hq with rfl | hq
        · exact .inl rfl
        · refine .inr ⟨List.mem_cons_of_mem _ hq, ?_⟩
          rcases List.mem_cons.1 hq with rfl | hq
          · rw [Ch2.e h2]; exact he.symm
          · exact (hx q hq).1) hown hat hg
      exact ⟨_, _, _, _, _, _, _, rfl, ⟨rfl, _, _, rfl, rfl⟩, Ch2.keep h2 (fun x hx => blk_grown hx (h.now.2 q1 List.mem_cons_self) he.symm hg), hF⟩
    | k + 3, hi, _ => simp at hi
  · rintro j x i a' W' hj hi ⟨v1, v2, v3, v4, v5, q1, q2, rfl, h1, h2, h⟩
    match j, hj, h2 with
    | 0, hj, ⟨e1, e2, e3⟩ =>
      obtain rfl : ib2 = x := by simpa using hj
      subst e1 e2 e3
      refine ⟨ob2, by rw [hrest]; simp, wb2 _ _ _, fun K hK => wp_rowv (kb2 _ _ _ _) (fun W1 hc hb => hK _ _ ?_)⟩
      rw [pb2]
      exact ⟨_, _, _, _, _, _, _, rfl, Ch1.keep h1 (fun x hx => blk_below hx hb), ⟨rfl, rfl, _, rfl, hc⟩, h.call hb⟩
    | k + 1, hj, _ => simp at hj
  · rintro a' W' ⟨v1, v2, v3, v4, v5, q1, q2, rfl, ⟨e1, A1, c1, e2, e3⟩, ⟨f2, f3, y, f5, hy⟩, h⟩
    subst e1 e2 e3 f2 f3 f5
    obtain ⟨ti, z, g1, g2, g3, g4, g5, g6, g7⟩ := ht2
    have hin : q2 ∈ r1.more A1 c1 cs1 :: q2 :: rx := List.mem_cons_of_mem _ List.mem_cons_self
    refine ro_one hB2 hds (wa2 _ _ _ _) (fun K hK => wp_append s2 x2 t2 oa2_ w.heap.size q2.e ti z q2.sz by2 g1 g2 g3 g4 g5 g6 g7 q2.val q2.n q2.xs (es2 _ _ _ _) (own_val (h.now.2 q2 hin)) ⟨y, 0, none⟩ 1 1 cs2 (ex2 _ _ _ _) (by rw [hl2, Nat.one_mul]) (new_cells hy) ho2 hm2.1 hm2.2 h.chg.size (fun v' W1 hown hg hat => ?_))
    obtain ⟨A', c', rfl⟩ := own_shapeO hown
    have hF := Fr.growO (r := q2) (r' := q2.more A' c' cs2) (rs' := r1.more A1 c1 cs1 :: q2.more A' c' cs2 :: rx) h hp0 hM hA hin (fun q hq => by
      rcases List.mem_cons.1 hq with rfl | hq
      · exact .inr ⟨List.mem_cons_self, he⟩
      · rcases List.mem_cons.1 hq with rfl | hq
        · exact .inl rfl
        · exact .inr ⟨List.mem_cons_of_mem _ (List.mem_cons_of_mem _ hq), (hx q hq).2⟩) hown hat hg
    refine hK _ _ (hS _ (hw hF)) (fun _ => ?_)
    rw [pa2]
    exact hend _ _ _ _ _ _ _ hF
end
end Go.Proofs.YtdaohldmojpihaaGreatDoor.G
