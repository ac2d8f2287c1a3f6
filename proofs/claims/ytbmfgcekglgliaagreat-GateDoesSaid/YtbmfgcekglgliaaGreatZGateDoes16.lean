/- Texts GateDoes, XI0, GateDoesC, in one file, without what is not needed here. -/
import Derived.Test.YtbmfgcekglgliaaGreatProg
import Derived.Below
import Derived.Deep.Draws
import Derived.Deep.AppendLies
import Derived.Maps.AppendAt
import Derived.OwnWalk
import Derived.Laws.BytesArg
import Derived.Laws.MakeOwn
import Derived.Laws.OwnMore
import Derived.Deep.OwnRows
import Derived.Tactics
import Derived.Lib.ConvBytes
import Derived.Laws.Slices
import Derived.WalkKit
import Derived.KernelRfl
import Derived.RowKit3
import Derived.Deep.LoopGhost
import Derived.Deep.QuietTactic
import Derived.BigQuiet
import Derived.WideLaws
import Derived.Deep.DeepCutAuto
import Derived.Deep.CutBlock
import Derived.Deep.RegionHeld3
import Derived.Laws.Rows
import Derived.Lib.AppendStr
import Derived.ArgAppend
import Derived.Laws.IdiomCopy
import Derived.OrdersHeld
import Derived.Laws.BitsLemmas
import Derived.RowKit
import Derived.Test.YtbmfgcekglgliaaGreatZGateDoes15
namespace Go.Proofs.YtbmfgcekglgliaaGreat.G
open Go.RowKit Go.Proofs.YtbmfgcekglgliaaGreatW.PrintWords Go.Proofs.YtbmfgcekglgliaaGreatW.PrintLast Go.Proofs.YtbmfgcekglgliaaGreatW.PrintMore Go.Proofs.YtbmfgcekglgliaaGreatPl Go.Proofs.YtbmfgcekglgliaaGreatEm Go.Proofs.YtbmfgcekglgliaaGreatKr Go.Proofs.YtbmfgcekglgliaaGreatRz Go.Proofs.YtbmfgcekglgliaaGreat.X
set_option linter.unusedVariables false
set_option linter.unusedSimpArgs false
def pDo (As : Option Addr) (ts : List Lp) (Ai : Option Addr) (l : List InC) (W : World) : Prop := InAll W Ai l ∧ Kd.C k58 W As ts.length ts
theorem told_mem {me : Int} {l : List Hd} {m : Nat} {x : Hd} (h : x ∈ toldR me l m) : x ∈ l := by
  obtain ⟨k, _, h2⟩ := (toldR_mem me l x m).1 h
  unfold pickT at h2
  split at h2
  · exact List.mem_of_find?_eq_some h2
  · cases h2
theorem add_zero (a : Addr) : a.add 0 = a := by
  unfold Addr.add
  split
  · rfl
  · rename_i h; exact absurd rfl h
set_option maxRecDepth 100000 in
set_option maxHeartbeats 40000000 in
theorem Does_calls (p : Par) (me : Int) (s : St) (As : Option Addr) (cs : Nat) (Ai : Option Addr) (ci : Nat) (l : List InC) (w : World) (hr : Tr (fun _ => False) w (pDo As s.tab Ai l)) (hl : l.length ≤ 9223372036854775807) (hh : ∀ y ∈ l, y.x.heard.length ≤ 9223372036854775807) :
    Calls Tryz.prog 3 #[.agg #[.int .i64 p.N, .int .i64 p.F, .int .i64 p.D, .int .i64 p.Be, .int .i64 p.Rho, .int .i64 p.De, .int .i64 p.Ji, .int .i64 p.Eps, .int .i64 p.Mu, .int .i64 p.Ho, .int .i64 p.Pu, .int .i64 p.Se], .int .i64 me, .agg #[.int .i64 s.lo, .int .i64 s.hi, .int .i64 s.time, .bool s.set, .int .i64 s.held, .int .i64 s.hops, .bool s.good, .slice As s.tab.length cs, .int .i64 s.st, .int .i64 s.sn, .int .i64 s.life], .slice Ai l.length ci] w fun e w' => e = .returned (.bool true) ∧ Below w.heap.size w w' := by
  have H := Fr.start0 (M := fun _ => False) (A := fun _ => False) (w := w) (p := pDo As s.tab Ai l) (fun _ h => h.elim) hr
  have HR0 := Lib.hid hr
  obtain ⟨b1, hb1⟩ : ∃ b, greatP s.tab.length l = b := ⟨_, rfl⟩
  have KG : Hid (∀ W, Tr (fun _ => False) W (fun W => RowI W Ai l) → Calls Tryz.prog 6 #[.agg #[.int .i64 s.lo, .int .i64 s.hi, .int .i64 s.time, .bool s.set, .int .i64 s.held, .int .i64 s.hops, .bool s.good, .slice As s.tab.length cs, .int .i64 s.st, .int .i64 s.sn, .int .i64 s.life], .slice Ai l.length ci] W fun e w' => e = .returned (.bool b1) ∧ Below W.heap.size W w') := Lib.hid (fun W h => by
    have := great_calls s.lo s.hi s.time s.set s.held s.hops s.good As s.tab.length cs s.st s.sn s.life Ai ci l W h hl hh
    rw [hb1] at this
    exact this)
  obtain ⟨z, hz⟩ : ∃ z, saneS p.D s = z := ⟨_, rfl⟩
  have HLA : Hid (b1 = false → s.tab.length ≤ 128 ∧ z.tab.length ≤ 128 ∧ ∀ y, y ∈ l → y.x.heard.length ≤ 40 ∧ y.x.tab.length ≤ 128 ∧ ∀ q, q ∈ y.x.heard → q.n ≤ 128) := Lib.hid (fun h => by
    rw [h] at hb1
    have h1 := great_all hb1
    have h2 := saneS_tab p.D s
    rw [hz] at h2
    exact ⟨h1.1, by omega, h1.2⟩)
  have KN : Hid (∀ W, b1 = false → Kd.C k58 W As s.tab.length s.tab → Calls Tryz.prog 7 #[.agg #[.int .i64 p.N, .int .i64 p.F, .int .i64 p.D, .int .i64 p.Be, .int .i64 p.Rho, .int .i64 p.De, .int .i64 p.Ji, .int .i64 p.Eps, .int .i64 p.Mu, .int .i64 p.Ho, .int .i64 p.Pu, .int .i64 p.Se], .int .i64 me, .agg #[.int .i64 s.lo, .int .i64 s.hi, .int .i64 s.time, .bool s.set, .int .i64 s.held, .int .i64 s.hops, .bool s.good, .slice As s.tab.length cs, .int .i64 s.st, .int .i64 s.sn, .int .i64 s.life]] W fun e w' => ∃ g A' c', e = .returned (.pointer (some ⟨g, 0, none⟩)) ∧ W.heap.size ≤ g ∧ w'.heap[g]? = some (.cells #[.int .i64 p.N, .int .i64 p.F, .int .i64 p.D, .int .i64 p.Be, .int .i64 p.Rho, .int .i64 p.De, .int .i64 p.Ji, .int .i64 p.Eps, .int .i64 p.Mu, .int .i64 p.Ho, .int .i64 p.Pu, .int .i64 p.Se, .int .i64 z.lo, .int .i64 z.hi, .int .i64 z.time, .bool z.set, .int .i64 z.held, .int .i64 z.hops, .bool z.good, .slice A' z.tab.length c', .int .i64 z.st, .int .i64 z.sn, .int .i64 z.life, .int .i64 me] 41 (0, 0)) ∧ w'.ownsRow W.heap.size 58 2 (.slice A' z.tab.length c') z.tab.length (flL z.tab) ∧ (∀ ad, A' = some ad → ad.block ≠ g) ∧ Below W.heap.size W w') := Lib.hid (fun W hb h => New_to p me s As cs W z hz h (by have := (HLA.out hb).1; omega))
  have KSa : Hid (∀ W, b1 = false → Kd.C k58 W As s.tab.length s.tab → Calls Tryz.prog 8 #[.agg #[.int .i64 p.N, .int .i64 p.F, .int .i64 p.D, .int .i64 p.Be, .int .i64 p.Rho, .int .i64 p.De, .int .i64 p.Ji, .int .i64 p.Eps, .int .i64 p.Mu, .int .i64 p.Ho, .int .i64 p.Pu, .int .i64 p.Se], .agg #[.int .i64 s.lo, .int .i64 s.hi, .int .i64 s.time, .bool s.set, .int .i64 s.held, .int .i64 s.hops, .bool s.good, .slice As s.tab.length cs, .int .i64 s.st, .int .i64 s.sn, .int .i64 s.life]] W fun e w' => ∃ A' c', e = .returned (.agg #[.int .i64 z.lo, .int .i64 z.hi, .int .i64 z.time, .bool z.set, .int .i64 z.held, .int .i64 z.hops, .bool z.good, .slice A' z.tab.length c', .int .i64 z.st, .int .i64 z.sn, .int .i64 z.life]) ∧ w'.ownsRow W.heap.size 58 2 (.slice A' z.tab.length c') z.tab.length (flL z.tab) ∧ Below W.heap.size W w') := Lib.hid (fun W hb h => by
    have := RSane_calls p s As cs W h (by have := (HLA.out hb).1; omega)
    rw [hz] at this
    exact this)
  have KSz := Lib.hid (fun W A B c d h1 h2 => RSameS_calls z A B c d W h1 h2)
  obtain ⟨slo, shi, stime, sset, sheld, shops, sgood, stab, sst, ssn, slife⟩ := s
  dsimp only at KG KN KSa HLA H HR0 ⊢
  obtain ⟨ns, hns⟩ : ∃ n, stab.length = n := ⟨_, rfl⟩
  obtain ⟨n, hn⟩ : ∃ n, l.length = n := ⟨_, rfl⟩
  have HN := Lib.hid (And.intro hns hn)
  have HG0 : Hid (Tr (fun _ => False) w (fun W => RowI W Ai l)) := Lib.hid (Foot.imp HR0.out (fun W h => h.1.1))
  have HS1 : Hid (∀ W, pDo As stab Ai l W → Kd.C k58 W As ns stab) := Lib.hid (fun W h => by have := h.2; rw [hns] at this; exact this)
  rw [hns] at KG KN KSa
  rw [hn] at KG hl
  rw [hns, hn]
  clear hns hn hr hb1 hz hh
  go_enter Tryz.func3, Tryz.ntmps3
  cases b1
  case true =>
    as_aux_lemma =>
      go_wp2_with (first
        | (go_at_call 5; (with_reducible refine (alive_calls _).mono ?_); rintro e w' ⟨rfl, hb⟩; have H1 := H.call hb; clear hb; clear H; have H := H1; clear H1)
        | (go_at_call 6; (with_reducible refine (KG.out _ (Tr.later HG0.out H.chg (fun k h => h) (fun k h _ => h.elim))).mono ?_); rintro e w' ⟨rfl, hb⟩; have H1 := H.call hb; clear hb; clear H; have H := H1; clear H1)
        | ((with_reducible refine gate_dst (N := 4) rfl ?_); refine fr_box H rfl rfl rfl ?_; intro g4 w4 H1; clear H; have H := H1; clear H1)
        | ((with_reducible refine gate_dst (N := 6) rfl ?_); refine fr_box H rfl rfl rfl ?_; intro g6 w6 H1; clear H; have H := H1; clear H1)
        | ((with_reducible refine gate_dst (N := 22) rfl ?_); refine fr_sub H (n := 11) rfl rfl rfl (by repeat (first | exact At.head | apply At.tail)) Tryz.underlying30 rfl (by kernel_rfl) (by simp only [List.toList_toArray, List.drop_succ_cons, List.drop_zero, List.take_succ_cons, List.take_zero]; rfl) (by rfl) ?_)
        | fail)
      go_ret
      exact ⟨rfl, H.below⟩
  have KN' := Lib.hid (fun W => KN.out W rfl)
  have KSa' := Lib.hid (fun W => KSa.out W rfl)
  have HLA' := Lib.hid (HLA.out rfl)
  clear KN KSa HLA
  go_upto_region 7 with (first
    | (go_at_call 5; (with_reducible refine (alive_calls _).mono ?_); rintro e w' ⟨rfl, hb⟩; have H1 := H.call hb; clear hb; clear H; have H := H1; clear H1)
    | (go_at_call 6; (with_reducible refine (KG.out _ (Tr.later HG0.out H.chg (fun k h => h) (fun k h _ => h.elim))).mono ?_); rintro e w' ⟨rfl, hb⟩; have H1 := H.call hb; clear hb; clear H; have H := H1; clear H1)
    | (go_at_call 7; (with_reducible refine (KN'.out _ (HS1.out _ H.now)).mono ?_); rintro e w' ⟨g, A1, c1, rfl, hg, hb, ho, hne, hB⟩; have H1 := Fr.freshRow H hg hb hB ho hne; clear hg hb hB ho hne H; have H := H1; clear H1)
    | (go_at_call 8; (with_reducible refine (KSa'.out _ (HS1.out _ H.now.1)).mono ?_); rintro e w' ⟨A2, c2, rfl, ho, hb⟩; have HT := Tr_row H.avs H.chg.size ho; have H2 := H.call2 hb HT; clear hb ho HT H; have H := H2; clear H2)
    | ((with_reducible refine gate_dst (N := 4) rfl ?_); refine fr_box H rfl rfl rfl ?_; intro g4 w4 H1; clear H; have H := H1; clear H1)
    | ((with_reducible refine gate_dst (N := 6) rfl ?_); refine fr_box H rfl rfl rfl ?_; intro g6 w6 H1; clear H; have H := H1; clear H1)
    | ((with_reducible refine gate_dst (N := 22) rfl ?_); refine fr_sub H (n := 11) rfl rfl rfl (by repeat (first | exact At.head | apply At.tail)) Tryz.underlying30 rfl (by kernel_rfl) (by simp only [List.toList_toArray, List.drop_succ_cons, List.drop_zero, List.take_succ_cons, List.take_zero]; rfl) (by rfl) ?_)
    | ((with_reducible refine gate_dst (N := 25) rfl ?_); refine fr_sub H (n := 12) rfl rfl rfl (by repeat (first | exact At.head | apply At.tail)) Tryz.underlying23 rfl (by kernel_rfl) (by simp only [List.toList_toArray, List.drop_succ_cons, List.drop_zero, List.take_succ_cons, List.take_zero]; rfl) (by rfl) ?_)
    | ((with_reducible refine gate_dst (N := 27) rfl ?_); refine fr_sub H (n := 11) rfl rfl rfl (by repeat (first | exact At.head | apply At.tail)) Tryz.underlying30 rfl (by kernel_rfl) (by simp only [List.toList_toArray, List.drop_succ_cons, List.drop_zero, List.take_succ_cons, List.take_zero]; rfl) (by rfl) ?_)
    | ((with_reducible refine gate_dst (N := 29) rfl ?_); refine fr_sub H (n := 12) rfl rfl rfl (by repeat (first | exact At.head | apply At.tail)) Tryz.underlying23 rfl (by kernel_rfl) (by simp only [List.toList_toArray, List.drop_succ_cons, List.drop_zero, List.take_succ_cons, List.take_zero]; rfl) (by rfl) ?_)
    | ((with_reducible refine gate_dst (N := 30) rfl ?_); refine fr_sub H (n := 11) rfl rfl rfl (by repeat (first | exact At.head | apply At.tail)) Tryz.underlying30 rfl (by kernel_rfl) (by simp only [List.toList_toArray, List.drop_succ_cons, List.drop_zero, List.take_succ_cons, List.take_zero]; rfl) (by rfl) ?_)
    | ((with_reducible refine gate_dst (N := 10) rfl ?_); refine fr_new H (N := 10) rfl rfl (cs := #[.int .i64 0, .int .i64 0, .int .i64 0, .bool false, .int .i64 0, .int .i64 0, .bool false, .slice none 0 0, .int .i64 0, .int .i64 0, .int .i64 0]) (t := 30) ?hr ?_; (case hr => first | (go_simp; done) | (go_simp; rfl)); intro g10 w10 H1; clear H; have H := H1; clear H1)
    | ((with_reducible refine gate_store (t := 30) (p := 10) rfl ?_); refine fr_put H rfl rfl rfl rfl rfl (by repeat (first | exact At.head | apply At.tail)) (by rfl) (by kernel_rfl) (by simp [Value.oneCell']) ?_; intro w10_ H1; clear H; have H := H1; clear H1)
    | fail)
  refine ko_region0 H (by kernel_rfl) (by as_aux_lemma => kernel_rfl) (fun HR => ?_)
  repeat (first
    | ((with_reducible refine kg_call (f := 9) rfl ?_); refine ko_call 9 _ rfl (by rfl) Tryz.func9 (by kernel_rfl) rfl (by kernel_rfl) (by simp only [List.map_toArray, List.map_cons, List.map_nil]; rfl) (fun W hC hd => KSz.out W A1 A2 c1 c2 (own_C' (HR W hC).now.1.2) (own_C' (HR W hC).now.2)) ?_; (try simp only [Act.put, List.setIfInBounds_toArray, List.set_cons_zero, List.set_cons_succ, Nat.reduceAdd]))
    | ((with_reducible refine kg_load (ty := 30) rfl ?_); refine ko_sub HR (n := 11) rfl (by rfl) (by rfl) (by repeat (first | exact At.head | apply At.tail)) Tryz.underlying30 rfl (by kernel_rfl) (by simp only [List.toList_toArray, List.drop_succ_cons, List.drop_zero, List.take_succ_cons, List.take_zero]; rfl) (by rfl) ?_; (try simp only [Act.put, List.setIfInBounds_toArray, List.set_cons_zero, List.set_cons_succ, Nat.reduceAdd]))
    | ((with_reducible refine kg_load (ty := 23) rfl ?_); refine ko_sub HR (n := 12) rfl (by rfl) (by rfl) (by repeat (first | exact At.head | apply At.tail)) Tryz.underlying23 rfl (by kernel_rfl) (by simp only [List.toList_toArray, List.drop_succ_cons, List.drop_zero, List.take_succ_cons, List.take_zero]; rfl) (by rfl) ?_; (try simp only [Act.put, List.setIfInBounds_toArray, List.set_cons_zero, List.set_cons_succ, Nat.reduceAdd]))
    | ((with_reducible refine kg_load (ty := 42) rfl ?_); refine ko_get HR rfl (by rfl) (by rfl) (by repeat (first | exact At.head | apply At.tail)) Tryz.underlying42 rfl (by simp only [List.getElem?_toArray, List.getElem?_cons_succ, List.getElem?_cons_zero]; rfl) ?_; (try simp only [Act.put, List.setIfInBounds_toArray, List.set_cons_zero, List.set_cons_succ, Nat.reduceAdd]))
    | ((with_reducible refine kg_load (ty := 3) rfl ?_); refine ko_get HR rfl (by rfl) (by rfl) (by repeat (first | exact At.head | apply At.tail)) Tryz.underlying3 rfl (by simp only [List.getElem?_toArray, List.getElem?_cons_succ, List.getElem?_cons_zero]; rfl) ?_; (try simp only [Act.put, List.setIfInBounds_toArray, List.set_cons_zero, List.set_cons_succ, Nat.reduceAdd]))
    | ((with_reducible refine kg_load (ty := 47) rfl ?_); refine ko_sub HR (n := 14) rfl (by rfl) (by rfl) (by repeat (first | exact At.head | apply At.tail)) Tryz.underlying47 rfl (by kernel_rfl) (by simp only [List.toList_toArray, List.drop_succ_cons, List.drop_zero, List.take_succ_cons, List.take_zero]; rfl) (by rfl) ?_; (try simp only [Act.put, List.setIfInBounds_toArray, List.set_cons_zero, List.set_cons_succ, Nat.reduceAdd]))
    | (refine ko_pure rfl (by rfl) (fun W K hK => by go_simp; exact hK.out) ?_; (try simp only [Act.put, List.setIfInBounds_toArray, List.set_cons_zero, List.set_cons_succ, Nat.reduceAdd]))
    | (refine ko_off (by rfl) ?_; (try simp only [Act.put, List.setIfInBounds_toArray, List.set_cons_zero, List.set_cons_succ, Nat.reduceAdd])))
  refine ko_end ?_
  intro w1 H1
  clear HR H
  have H := H1
  clear H1
  (try simp only [List.map_cons, List.map_nil, cv, List.cons_append, List.nil_append] at H)
  go_wp2
  go_loopw [46] (fun v46 wr => ∃ (k : Nat) (u : St) (A1 : Option Addr) (c1 : Nat) (A2 : Option Addr) (c2 : Nat), k ≤ n ∧ v46 = .int .i64 k ∧ Hid (u.tab.length ≤ 128) ∧ Fr (fun _ => False) (fun _ => False) w wr [(g10, .cells #[.int .i64 u.lo, .int .i64 u.hi, .int .i64 u.time, .bool u.set, .int .i64 u.held, .int .i64 u.hops, .bool u.good, .slice A2 u.tab.length c2, .int .i64 u.st, .int .i64 u.sn, .int .i64 u.life] 30 (0, 0)), (g, .cells #[.int .i64 p.N, .int .i64 p.F, .int .i64 p.D, .int .i64 p.Be, .int .i64 p.Rho, .int .i64 p.De, .int .i64 p.Ji, .int .i64 p.Eps, .int .i64 p.Mu, .int .i64 p.Ho, .int .i64 p.Pu, .int .i64 p.Se, .int .i64 u.lo, .int .i64 u.hi, .int .i64 u.time, .bool u.set, .int .i64 u.held, .int .i64 u.hops, .bool u.good, .slice A1 u.tab.length c1, .int .i64 u.st, .int .i64 u.sn, .int .i64 u.life, .int .i64 me] 41 (0, 0)), (g6, .cells #[.int .i64 slo, .int .i64 shi, .int .i64 stime, .bool sset, .int .i64 sheld, .int .i64 shops, .bool sgood, .slice As ns cs, .int .i64 sst, .int .i64 ssn, .int .i64 slife] 30 (0, 0)), (g4, .cells #[.int .i64 p.N, .int .i64 p.F, .int .i64 p.D, .int .i64 p.Be, .int .i64 p.Rho, .int .i64 p.De, .int .i64 p.Ji, .int .i64 p.Eps, .int .i64 p.Mu, .int .i64 p.Ho, .int .i64 p.Pu, .int .i64 p.Se] 23 (0, 0))] (fun W => (pDo As stab Ai l W ∧ W.ownsRow w.heap.size 58 2 (.slice A1 u.tab.length c1) u.tab.length (flL u.tab)) ∧ W.ownsRow w.heap.size 58 2 (.slice A2 u.tab.length c2) u.tab.length (flL u.tab))) (fun v46 _ => n - (intOf v46).toNat)
  case atStart => exact ⟨0, z, A1, c1, A2, c2, by omega, rfl, Lib.hid HLA'.out.2.1, H⟩
  case round =>
  clear H KSz KN' KSa'
  obtain ⟨k, u, A1, c1, A2, c2, hk, rfl, HU, H⟩ := hrel
  by_cases hlt : k < n
  · have hkl : k < l.length := by rw [HN.out.2]; exact hlt
    have hk1 : (k : Int) < (n : Int) := by omega
    have hs1 : -9223372036854775808 ≤ (k : Int) + 1 := by omega
    have hs2 : (k : Int) + 1 ≤ 9223372036854775807 := by omega
    obtain ⟨y, hye⟩ : ∃ y, l[k] = y := ⟨_, rfl⟩
    have hyl : y ∈ l := hye ▸ List.getElem_mem hkl
    have HYL := Lib.hid hyl
    have hrow := H.now.1.1.1.1 k hkl
    rw [hye] at hrow
    obtain ⟨ad, e, hx⟩ := hrow.1
    cases e
    have KRow0 : Hid (∀ W, pDo As stab (some ad) l W → RowH W y.Ah y.x.heard) := Lib.hid (fun W h => by
      have := (h.1.1 k hkl).2
      rw [hye] at this
      exact this)
    have HB := Lib.hid (HLA'.out.2.2 y hyl)
    obtain ⟨⟨ticks, heard, ref, reading, given, ttab⟩, Ah, ch, Ax, ct⟩ := y
    dsimp only at KRow0 HB
    have hx' : ∀ j q, [Value.int .i64 ticks, .slice Ah heard.length ch, .bool ref, .int .i64 reading, .bool given, .slice Ax ttab.length ct][j]? = some q → wr.cell? ((ad.add (k * 6)).add j) = some q := hx
    have KRow : Hid (Tr (fun _ => False) w (fun W => RowH W Ah heard)) := Lib.hid (Foot.imp HR0.out KRow0.out)
    have KTab : Hid (∀ W, pDo As stab (some ad) l W → Kd.C k58 W Ax ttab.length ttab) := Lib.hid (fun W h => (h.1.2 _ HYL.out).1)
    have KMem : Hid (∀ W q, pDo As stab (some ad) l W → q ∈ heard → TabH W q) := Lib.hid (fun W q h hq => (h.1.2 _ HYL.out).2 q hq)
    obtain ⟨ul, hul⟩ : ∃ q, toldR me heard (upT p.N) = q := ⟨_, rfl⟩
    obtain ⟨m, hm⟩ : ∃ q, ul.length = q := ⟨_, rfl⟩
    have HUM : Hid (ul.length = m ∧ m ≤ 16 ∧ ∀ q, q ∈ ul → q ∈ heard) := Lib.hid ⟨hm, by
      rw [← hm, ← hul]
      refine Nat.le_trans (toldR_len _ _ _) ?_
      unfold upT
      split <;> omega, fun q hq => by rw [← hul] at hq; exact told_mem hq⟩
    have hhl : heard.length ≤ 4096 := by have := HB.out.1; omega
    have KTold : Hid (∀ W, Tr (fun _ => False) W (fun W => RowH W Ah heard) → Calls Tryz.prog 10 #[.agg #[.int .i64 p.N, .int .i64 p.F, .int .i64 p.D, .int .i64 p.Be, .int .i64 p.Rho, .int .i64 p.De, .int .i64 p.Ji, .int .i64 p.Eps, .int .i64 p.Mu, .int .i64 p.Ho, .int .i64 p.Pu, .int .i64 p.Se], .int .i64 me, .slice Ah heard.length ch] W fun e w' => ∃ A' c', e = .returned (.slice A' m c') ∧ w'.ownsRow W.heap.size 49 15 (.slice A' m c') m (flH ul) ∧ Below W.heap.size W w') := Lib.hid (fun W h => by
      have h1 : unB (told p.N me heard) = ul := by rw [← toldR_told, hul]
      have h2 : (told p.N me heard).length = m := by rw [← hm, ← h1]; unfold unB; rw [List.length_map]
      refine (Told_calls p me Ah ch heard W h hhl).mono ?_
      rintro e w' ⟨v, rfl, ho, hb⟩
      rw [h1, h2] at ho
      obtain ⟨A', c', e2⟩ := own_shape ho
      exact ⟨A', c', by rw [e2], by rw [← e2]; exact ho, hb⟩)
    have KRTold : Hid (∀ W, Tr (fun _ => False) W (fun W => RowH W Ah heard) → Calls Tryz.prog 11 #[.agg #[.int .i64 p.N, .int .i64 p.F, .int .i64 p.D, .int .i64 p.Be, .int .i64 p.Rho, .int .i64 p.De, .int .i64 p.Ji, .int .i64 p.Eps, .int .i64 p.Mu, .int .i64 p.Ho, .int .i64 p.Pu, .int .i64 p.Se], .int .i64 me, .slice Ah heard.length ch] W fun e w' => ∃ A' c', e = .returned (.slice A' m c') ∧ w'.ownsRow W.heap.size 49 15 (.slice A' m c') m (flH ul) ∧ Below W.heap.size W w') := Lib.hid (fun W h => by
      have := RTold_calls p me Ah ch heard W h hhl
      rw [hul, hm] at this
      exact this)
    obtain ⟨U, hU⟩ : ∃ U, beatS p me u ⟨ticks, heard, ref, reading, given, ttab⟩ = U := ⟨_, rfl⟩
    obtain ⟨rb, hrb⟩ : ∃ b, rdB p ⟨ticks, heard, ref, reading, given, ttab⟩ = b := ⟨_, rfl⟩
    obtain ⟨⟨s1, s2⟩, hsn⟩ : ∃ b, snP p ⟨ticks, heard, ref, reading, given, ttab⟩ = b := ⟨_, rfl⟩
    obtain ⟨pu, hpu⟩ : ∃ b, pulseS p U = b := ⟨_, rfl⟩
    have HUT : Hid (U.tab.length ≤ 128) := Lib.hid (by
      have h1 := beatS_tab p me u ⟨ticks, heard, ref, reading, given, ttab⟩
      rw [hU] at h1
      have h2 := HU.out
      have h3 := HB.out.2.1
      dsimp only at h1
      omega)
    have KB : Hid (∀ W, W.heap[g]? = some (.cells #[.int .i64 p.N, .int .i64 p.F, .int .i64 p.D, .int .i64 p.Be, .int .i64 p.Rho, .int .i64 p.De, .int .i64 p.Ji, .int .i64 p.Eps, .int .i64 p.Mu, .int .i64 p.Ho, .int .i64 p.Pu, .int .i64 p.Se, .int .i64 u.lo, .int .i64 u.hi, .int .i64 u.time, .bool u.set, .int .i64 u.held, .int .i64 u.hops, .bool u.good, .slice A1 u.tab.length c1, .int .i64 u.st, .int .i64 u.sn, .int .i64 u.life, .int .i64 me] 41 (0, 0)) → Tr (fun k => k = g) W (pR Ah heard Ax ttab A1 u.tab) → Calls Tryz.prog 13 #[.pointer (some ⟨g, 0, none⟩), .agg #[.int .i64 ticks, .slice Ah heard.length ch, .bool ref, .int .i64 reading, .bool given, .slice Ax ttab.length ct]] W fun e w' => ∃ (A3 : Option Addr) (c3 : Nat) (A4 : Option Addr) (c4 : Nat), e = .returned (.agg #[.int .i64 1, .int .i64 me, .int .i64 U.lo, .int .i64 U.hi, .int .i64 U.held, .int .i64 U.hops, .bool U.good, .bool rb, .int .i64 s1, .int .i64 s2, .int .i64 pu, .int .i64 U.st, .int .i64 U.sn, .slice A4 U.tab.length c4]) ∧ w'.heap[g]? = some (.cells #[.int .i64 p.N, .int .i64 p.F, .int .i64 p.D, .int .i64 p.Be, .int .i64 p.Rho, .int .i64 p.De, .int .i64 p.Ji, .int .i64 p.Eps, .int .i64 p.Mu, .int .i64 p.Ho, .int .i64 p.Pu, .int .i64 p.Se, .int .i64 U.lo, .int .i64 U.hi, .int .i64 U.time, .bool U.set, .int .i64 U.held, .int .i64 U.hops, .bool U.good, .slice A3 U.tab.length c3, .int .i64 U.st, .int .i64 U.sn, .int .i64 U.life, .int .i64 me] 41 (0, 0)) ∧ w'.ownsRow W.heap.size 58 2 (.slice A3 U.tab.length c3) U.tab.length (flL U.tab) ∧ w'.ownsRow W.heap.size 58 2 (.slice A4 U.tab.length c4) U.tab.length (flL U.tab) ∧ Chg (fun k => k = g) W w') := Lib.hid (fun W h1 h2 => by
      have := Beat_to p me u A1 c1 g ⟨ticks, heard, ref, reading, given, ttab⟩ Ah ch Ax ct W U hU h1 h2 hhl (by have := HB.out.2.1; dsimp only; omega) (by have := HU.out; omega)
      rw [hrb, hsn, hpu] at this
      refine this.mono ?_
      rintro e w' ⟨A3, c3, A4, c4, q1, q2, q3, q4, _, q5⟩
      exact ⟨A3, c3, A4, c4, q1, q2, q3, q4, q5⟩)
    have KRB : Hid (∀ W, Tr (fun _ => False) W (pR Ah heard Ax ttab A2 u.tab) → Calls Tryz.prog 14 #[.agg #[.int .i64 p.N, .int .i64 p.F, .int .i64 p.D, .int .i64 p.Be, .int .i64 p.Rho, .int .i64 p.De, .int .i64 p.Ji, .int .i64 p.Eps, .int .i64 p.Mu, .int .i64 p.Ho, .int .i64 p.Pu, .int .i64 p.Se], .int .i64 me, .agg #[.int .i64 u.lo, .int .i64 u.hi, .int .i64 u.time, .bool u.set, .int .i64 u.held, .int .i64 u.hops, .bool u.good, .slice A2 u.tab.length c2, .int .i64 u.st, .int .i64 u.sn, .int .i64 u.life], .agg #[.int .i64 ticks, .slice Ah heard.length ch, .bool ref, .int .i64 reading, .bool given, .slice Ax ttab.length ct]] W fun e w' => ∃ A5 c5 A6 c6, e = .returned (.tuple #[.agg #[.int .i64 U.lo, .int .i64 U.hi, .int .i64 U.time, .bool U.set, .int .i64 U.held, .int .i64 U.hops, .bool U.good, .slice A5 U.tab.length c5, .int .i64 U.st, .int .i64 U.sn, .int .i64 U.life], .agg #[.int .i64 1, .int .i64 me, .int .i64 U.lo, .int .i64 U.hi, .int .i64 U.held, .int .i64 U.hops, .bool U.good, .bool rb, .int .i64 s1, .int .i64 s2, .int .i64 pu, .int .i64 U.st, .int .i64 U.sn, .slice A6 U.tab.length c6]]) ∧ w'.ownsRow W.heap.size 58 2 (.slice A5 U.tab.length c5) U.tab.length (flL U.tab) ∧ w'.ownsRow W.heap.size 58 2 (.slice A6 U.tab.length c6) U.tab.length (flL U.tab) ∧ Below W.heap.size W w') := Lib.hid (fun W h2 => by
      have := RBeat_to p me u A2 c2 ⟨ticks, heard, ref, reading, given, ttab⟩ Ah ch Ax ct W U hU h2 hhl (by have := HB.out.2.1; dsimp only; omega) (by have := HU.out; omega)
      rw [hrb, hsn, hpu] at this
      exact this)
    have KSU := Lib.hid (fun W A B c d h1 h2 => RSameS_calls U A B c d W h1 h2)
    have KSay := Lib.hid (fun W A B c d (h1 : Kd.C k58 W A U.tab.length U.tab) (h2 : Kd.C k58 W B U.tab.length U.tab) => RSameM_calls 1 me U.lo U.hi U.held U.hops U.good rb s1 s2 pu U.st U.sn A B c d U.tab.length U.tab W rfl h1 h2)
    obtain ⟨nh, hnh⟩ : ∃ q, heard.length = q := ⟨_, rfl⟩
    obtain ⟨nt, hnt⟩ : ∃ q, ttab.length = q := ⟨_, rfl⟩
    have HC0 : Hid (∀ j q, [.int .i64 ticks, .slice Ah nh ch, .bool ref, .int .i64 reading, .bool given, .slice Ax nt ct][j]? = some q → wr.cell? ((ad.add (k * 6)).add j) = some q) := Lib.hid (by rw [← hnh, ← hnt]; exact hx')
    rw [hnh] at KTold KRTold
    rw [hnh, hnt] at KB KRB
    have HPRB : Hid (∀ W, (pDo As stab (some ad) l W ∧ W.ownsRow w.heap.size 58 2 (.slice A1 u.tab.length c1) u.tab.length (flL u.tab)) → pR Ah heard Ax ttab A1 u.tab W) := Lib.hid (fun W h => ⟨KRow0.out W h.1, KTab.out W h.1, own_C' h.2⟩)
    have HPRR : Hid (∀ W, pDo As stab (some ad) l W → W.ownsRow w.heap.size 58 2 (.slice A2 u.tab.length c2) u.tab.length (flL u.tab) → pR Ah heard Ax ttab A2 u.tab W) := Lib.hid (fun W h h2 => ⟨KRow0.out W h, KTab.out W h, own_C' h2⟩)
    have HKK := Lib.hid (And.intro hkl hlt)
    clear hx hx' hye hyl hrow hul hm hhl hU hrb hsn hpu hnh hnt hkl
    go_upto_region 12 with (first
      | ((with_reducible refine gate_dst (N := 49) rfl ?_); refine load_cells rfl rfl (ad := ad.add (k * 6)) (cs := [.int .i64 ticks, .slice Ah nh ch, .bool ref, .int .i64 reading, .bool given, .slice Ax nt ct]) ?hx Tryz.underlying44 rfl (by kernel_rfl) HC0.out ?_; (case hx => first | rfl | (go_simp; done) | (go_simp; rfl)))
      | ((with_reducible refine gate_dst (N := 49) rfl ?_); refine fr_sub H (n := 6) rfl rfl rfl (by repeat (first | exact At.head | apply At.tail)) Tryz.underlying44 rfl (by kernel_rfl) (by simp only [List.toList_toArray, List.drop_succ_cons, List.drop_zero, List.take_succ_cons, List.take_zero]; rfl) (by rfl) ?_)
      | ((with_reducible refine gate_dst (N := 12) rfl ?_); refine fr_new H (N := 12) rfl rfl (cs := #[.int .i64 0, .slice none 0 0, .bool false, .int .i64 0, .bool false, .slice none 0 0]) (t := 44) ?hr ?_; (case hr => first | (go_simp; done) | (go_simp; rfl)); intro g12 w12 H1; clear H; have H := H1; clear H1)
      | ((with_reducible refine gate_store (t := 44) (p := 12) rfl ?_); refine fr_put H rfl rfl rfl rfl rfl (by repeat (first | exact At.head | apply At.tail)) (by rfl) (by kernel_rfl) (by simp [Value.oneCell']) ?_; intro w12_ H1; clear H; have H := H1; clear H1)
      | fail)
    refine ro_start (Frs _ _ _ _ _) [] [0, 1, 2, 3, 5, 6, 7, 8, 4, 9, 10, 11] 12 (by kernel_rfl) (by rfl) (by simp only [pickR, List.getElem?_cons_succ, List.getElem?_cons_zero]; rfl) (by rfl) (H.drewN 1) (fun HS => ?_)
    have H1 : Fr _ _ _ _ _ _ := HS
    clear HS H
    have H := H1
    clear H1
    repeat (first
      | ((with_reducible refine rz_call (f := 10) rfl ?_); refine ro_call 10 _ rfl (by kernel_rfl) (by kernel_rfl) (by rfl) Tryz.func10 (by kernel_rfl) rfl (by simp only [List.map_toArray, List.map_cons, List.map_nil]; rfl) ?_; (refine (KTold.out _ (Tr.later KRow.out H.chg (fun k h ↦ h) (fun k h _ ↦ h.elim))).mono ?_); rintro e w' ⟨Aq, ct1, rfl, ho, hb⟩; have HT := Tr_row H.avs H.chg.size ho; have H2 := H.call2 hb HT; have H1 := H.call hb; refine ⟨_, rfl, H1, fun _ => ?_⟩; clear hb ho HT H1 H; have H := H2; clear H2; (try simp only [Act.put, List.setIfInBounds_toArray, List.set_cons_zero, List.set_cons_succ, Nat.reduceAdd]))
      | ((with_reducible refine rz_call (f := 11) rfl ?_); refine ro_call 11 _ rfl (by kernel_rfl) (by kernel_rfl) (by rfl) Tryz.func11 (by kernel_rfl) rfl (by simp only [List.map_toArray, List.map_cons, List.map_nil]; rfl) ?_; (refine (KRTold.out _ (Tr.later KRow.out H.chg (fun k h ↦ h) (fun k h _ ↦ h.elim))).mono ?_); rintro e w' ⟨Ar, cr, rfl, ho, hb⟩; have HT := Tr_row H.avs H.chg.size ho; have H2 := H.call2 hb HT; have H1 := (H.call hb).imp (fun _ h => h.1); refine ⟨_, rfl, H1, fun _ => ?_⟩; clear hb ho HT H1 H; have H := H2; clear H2; (try simp only [Act.put, List.setIfInBounds_toArray, List.set_cons_zero, List.set_cons_succ, Nat.reduceAdd]))
      | ((with_reducible refine rz_load (ty := 23) rfl ?_); refine ro_sub H (m := 12) rfl (by kernel_rfl) (fun _ _ _ h => h) (by rfl) (by rfl) (by repeat (first | exact At.head | apply At.tail)) Tryz.underlying23 rfl (by kernel_rfl) (by simp only [List.toList_toArray, List.drop_succ_cons, List.drop_zero, List.take_succ_cons, List.take_zero]; rfl) (by rfl) ?_; (try simp only [Act.put, List.setIfInBounds_toArray, List.set_cons_zero, List.set_cons_succ, Nat.reduceAdd]))
      | ((with_reducible refine rz_load (ty := 42) rfl ?_); refine ro_get H rfl (by kernel_rfl) (fun _ _ _ h => h) (by rfl) (by rfl) (by repeat (first | exact At.head | apply At.tail)) Tryz.underlying42 rfl (by simp only [List.getElem?_toArray, List.getElem?_cons_succ, List.getElem?_cons_zero]; rfl) ?_; (try simp only [Act.put, List.setIfInBounds_toArray, List.set_cons_zero, List.set_cons_succ, Nat.reduceAdd]))
      | (refine ro_off (by kernel_rfl) (fun _ _ _ h => h) (by rfl) ?_; (try simp only [Act.put, List.setIfInBounds_toArray, List.set_cons_zero, List.set_cons_succ, Nat.reduceAdd]))
      | (refine ro_pure (by kernel_rfl) (fun _ _ _ h => h) (by rfl) (fun W K hK => by go_simp; exact hK.out) ?_; (try simp only [Act.put, List.setIfInBounds_toArray, List.set_cons_zero, List.set_cons_succ, Nat.reduceAdd])))
    refine ro_done (by kernel_rfl) ?_
    go_wp2
    go_loopw [67] (fun v67 ws => ∃ i : Nat, i ≤ m ∧ v67 = .int .i64 i ∧ Fr (fun _ => False) (fun _ => False) w ws [(g12, .cells #[.int .i64 ticks, .slice Ah nh ch, .bool ref, .int .i64 reading, .bool given, .slice Ax nt ct] 44 (0, 0)), (g10, .cells #[.int .i64 u.lo, .int .i64 u.hi, .int .i64 u.time, .bool u.set, .int .i64 u.held, .int .i64 u.hops, .bool u.good, .slice A2 u.tab.length c2, .int .i64 u.st, .int .i64 u.sn, .int .i64 u.life] 30 (0, 0)), (g, .cells #[.int .i64 p.N, .int .i64 p.F, .int .i64 p.D, .int .i64 p.Be, .int .i64 p.Rho, .int .i64 p.De, .int .i64 p.Ji, .int .i64 p.Eps, .int .i64 p.Mu, .int .i64 p.Ho, .int .i64 p.Pu, .int .i64 p.Se, .int .i64 u.lo, .int .i64 u.hi, .int .i64 u.time, .bool u.set, .int .i64 u.held, .int .i64 u.hops, .bool u.good, .slice A1 u.tab.length c1, .int .i64 u.st, .int .i64 u.sn, .int .i64 u.life, .int .i64 me] 41 (0, 0)), (g6, .cells #[.int .i64 slo, .int .i64 shi, .int .i64 stime, .bool sset, .int .i64 sheld, .int .i64 shops, .bool sgood, .slice As ns cs, .int .i64 sst, .int .i64 ssn, .int .i64 slife] 30 (0, 0)), (g4, .cells #[.int .i64 p.N, .int .i64 p.F, .int .i64 p.D, .int .i64 p.Be, .int .i64 p.Rho, .int .i64 p.De, .int .i64 p.Ji, .int .i64 p.Eps, .int .i64 p.Mu, .int .i64 p.Ho, .int .i64 p.Pu, .int .i64 p.Se] 23 (0, 0))] (fun W => (((pDo As stab (some ad) l W ∧ W.ownsRow w.heap.size 58 2 (.slice A1 u.tab.length c1) u.tab.length (flL u.tab)) ∧ W.ownsRow w.heap.size 58 2 (.slice A2 u.tab.length c2) u.tab.length (flL u.tab)) ∧ W.ownsRow w.heap.size 49 15 (.slice Aq m ct1) m (flH ul)) ∧ W.ownsRow w.heap.size 49 15 (.slice Ar m cr) m (flH ul))) (fun v67 _ => m - (intOf v67).toNat)
    case atStart => exact ⟨0, by omega, rfl, H⟩
    case round =>
    clear H
    obtain ⟨i, hi, rfl, H⟩ := hrel
    by_cases hit : i < m
    · as_aux_lemma =>
        have hil : i < ul.length := by rw [HUM.out.1]; exact hit
        have hi1 : (i : Int) < (m : Int) := by omega
        have hs3 : -9223372036854775808 ≤ (i : Int) + 1 := by omega
        have hs4 : (i : Int) + 1 ≤ 9223372036854775807 := by have := HUM.out.2.1; omega
        obtain ⟨bd1, e1, -⟩ := rowH_own H.now.1.2 i hil
        cases e1
        obtain ⟨bd2, e2, -⟩ := rowH_own H.now.2 i hil
        cases e2
        obtain ⟨q, hq⟩ : ∃ q, ul[i] = q := ⟨_, rfl⟩
        have HMQ : Hid (q ∈ heard) := Lib.hid (HUM.out.2.2 q (hq ▸ List.getElem_mem hil))
        have HC1 : Hid (∀ W, ((((pDo As stab (some ad) l W ∧ W.ownsRow w.heap.size 58 2 (.slice A1 u.tab.length c1) u.tab.length (flL u.tab)) ∧ W.ownsRow w.heap.size 58 2 (.slice A2 u.tab.length c2) u.tab.length (flL u.tab)) ∧ W.ownsRow w.heap.size 49 15 (.slice (some bd1) m ct1) m (flH ul)) ∧ W.ownsRow w.heap.size 49 15 (.slice (some bd2) m cr) m (flH ul)) → ∀ j v, (encH q)[j]? = some v → W.cell? ((bd1.add (i * 15)).add j) = some v) := Lib.hid (fun W h => by
          obtain ⟨b', e', h'⟩ := rowH_own h.1.2 i hil
          cases e'
          rw [hq] at h'
          exact h')
        have HC2 : Hid (∀ W, ((((pDo As stab (some ad) l W ∧ W.ownsRow w.heap.size 58 2 (.slice A1 u.tab.length c1) u.tab.length (flL u.tab)) ∧ W.ownsRow w.heap.size 58 2 (.slice A2 u.tab.length c2) u.tab.length (flL u.tab)) ∧ W.ownsRow w.heap.size 49 15 (.slice (some bd1) m ct1) m (flH ul)) ∧ W.ownsRow w.heap.size 49 15 (.slice (some bd2) m cr) m (flH ul)) → ∀ j v, (encH q)[j]? = some v → W.cell? ((bd2.add (i * 15)).add j) = some v) := Lib.hid (fun W h => by
          obtain ⟨b', e', h'⟩ := rowH_own h.2 i hil
          cases e'
          rw [hq] at h'
          exact h')
        clear hq hil
        obtain ⟨kind, frm, mlo, mhi, mheld, mhops, mgood, mref, mslo, mshi, pulse, mst, msn, Am, nm, cm, age⟩ := q
        have HPF : ∀ (j : Nat) (v : Value), [.int .i64 kind, .int .i64 frm, .int .i64 mlo, .int .i64 mhi, .int .i64 mheld, .int .i64 mhops, .bool mgood, .bool mref, .int .i64 mslo, .int .i64 mshi, .int .i64 pulse, .int .i64 mst, .int .i64 msn, .slice Am nm cm][j]? = some v → (encH ⟨kind, frm, mlo, mhi, mheld, mhops, mgood, mref, mslo, mshi, pulse, mst, msn, Am, nm, cm, age⟩)[j]? = some v := fun j v h => by
          show ([.int .i64 kind, .int .i64 frm, .int .i64 mlo, .int .i64 mhi, .int .i64 mheld, .int .i64 mhops, .bool mgood, .bool mref, .int .i64 mslo, .int .i64 mshi, .int .i64 pulse, .int .i64 mst, .int .i64 msn, .slice Am nm cm] ++ [.int .i64 age] : List Value)[j]? = some v
          rw [List.getElem?_append_left (List.getElem?_eq_some_iff.1 h).1]
          exact h
        have HD1 : Hid (∀ W, ((((pDo As stab (some ad) l W ∧ W.ownsRow w.heap.size 58 2 (.slice A1 u.tab.length c1) u.tab.length (flL u.tab)) ∧ W.ownsRow w.heap.size 58 2 (.slice A2 u.tab.length c2) u.tab.length (flL u.tab)) ∧ W.ownsRow w.heap.size 49 15 (.slice (some bd1) m ct1) m (flH ul)) ∧ W.ownsRow w.heap.size 49 15 (.slice (some bd2) m cr) m (flH ul)) → ∀ j v, [.int .i64 kind, .int .i64 frm, .int .i64 mlo, .int .i64 mhi, .int .i64 mheld, .int .i64 mhops, .bool mgood, .bool mref, .int .i64 mslo, .int .i64 mshi, .int .i64 pulse, .int .i64 mst, .int .i64 msn, .slice Am nm cm][j]? = some v → W.cell? (((bd1.add (i * 15)).add 0).add j) = some v) := Lib.hid (fun W h j v hv => by rw [add_zero]; exact HC1.out W h j v (HPF j v hv))
        have HD2 : Hid (∀ W, ((((pDo As stab (some ad) l W ∧ W.ownsRow w.heap.size 58 2 (.slice A1 u.tab.length c1) u.tab.length (flL u.tab)) ∧ W.ownsRow w.heap.size 58 2 (.slice A2 u.tab.length c2) u.tab.length (flL u.tab)) ∧ W.ownsRow w.heap.size 49 15 (.slice (some bd1) m ct1) m (flH ul)) ∧ W.ownsRow w.heap.size 49 15 (.slice (some bd2) m cr) m (flH ul)) → ∀ j v, [.int .i64 kind, .int .i64 frm, .int .i64 mlo, .int .i64 mhi, .int .i64 mheld, .int .i64 mhops, .bool mgood, .bool mref, .int .i64 mslo, .int .i64 mshi, .int .i64 pulse, .int .i64 mst, .int .i64 msn, .slice Am nm cm][j]? = some v → W.cell? (((bd2.add (i * 15)).add 0).add j) = some v) := Lib.hid (fun W h j v hv => by rw [add_zero]; exact HC2.out W h j v (HPF j v hv))
        have KSM : Hid (∀ W, ((((pDo As stab (some ad) l W ∧ W.ownsRow w.heap.size 58 2 (.slice A1 u.tab.length c1) u.tab.length (flL u.tab)) ∧ W.ownsRow w.heap.size 58 2 (.slice A2 u.tab.length c2) u.tab.length (flL u.tab)) ∧ W.ownsRow w.heap.size 49 15 (.slice (some bd1) m ct1) m (flH ul)) ∧ W.ownsRow w.heap.size 49 15 (.slice (some bd2) m cr) m (flH ul)) → Calls Tryz.prog 12 #[.agg #[.int .i64 kind, .int .i64 frm, .int .i64 mlo, .int .i64 mhi, .int .i64 mheld, .int .i64 mhops, .bool mgood, .bool mref, .int .i64 mslo, .int .i64 mshi, .int .i64 pulse, .int .i64 mst, .int .i64 msn, .slice Am nm cm], .agg #[.int .i64 kind, .int .i64 frm, .int .i64 mlo, .int .i64 mhi, .int .i64 mheld, .int .i64 mhops, .bool mgood, .bool mref, .int .i64 mslo, .int .i64 mshi, .int .i64 pulse, .int .i64 mst, .int .i64 msn, .slice Am nm cm]] W fun e w' => e = .returned (.bool true) ∧ Below W.heap.size W w') := Lib.hid (fun W h => by
          obtain ⟨t, ht, hC⟩ := KMem.out W _ h.1.1.1.1 HMQ.out
          exact RSameM_calls kind frm mlo mhi mheld mhops mgood mref mslo mshi pulse mst msn Am Am cm cm nm t W ht hC hC)
        clear HPF KTold KRTold KB KRB KSU KSay HUM
        go_upto_region 18 with fail
        refine ko_region0 H (by kernel_rfl) (by as_aux_lemma => kernel_rfl) (fun HR => ?_)
        repeat (first
          | ((with_reducible refine kg_dst (N := 74) rfl ?_); refine ko_cell rfl (by rfl) (by rfl) Tryz.underlying3 rfl (fun W hC => HC1.out W (HR W hC).now 14 _ rfl) ?_; (try simp only [Act.put, List.setIfInBounds_toArray, List.set_cons_zero, List.set_cons_succ, Nat.reduceAdd]))
          | ((with_reducible refine kg_dst (N := 79) rfl ?_); refine ko_cell rfl (by rfl) (by rfl) Tryz.underlying3 rfl (fun W hC => HC2.out W (HR W hC).now 14 _ rfl) ?_; (try simp only [Act.put, List.setIfInBounds_toArray, List.set_cons_zero, List.set_cons_succ, Nat.reduceAdd]))
          | ((with_reducible refine kg_dst (N := 86) rfl ?_); refine ko_cells (cs := [.int .i64 kind, .int .i64 frm, .int .i64 mlo, .int .i64 mhi, .int .i64 mheld, .int .i64 mhops, .bool mgood, .bool mref, .int .i64 mslo, .int .i64 mshi, .int .i64 pulse, .int .i64 mst, .int .i64 msn, .slice Am nm cm]) rfl (by rfl) (by rfl) Tryz.underlying47 rfl (by kernel_rfl) (fun W hC => HD1.out W (HR W hC).now) ?_; (try simp only [Act.put, List.setIfInBounds_toArray, List.set_cons_zero, List.set_cons_succ, Nat.reduceAdd]))
          | ((with_reducible refine kg_dst (N := 91) rfl ?_); refine ko_cells (cs := [.int .i64 kind, .int .i64 frm, .int .i64 mlo, .int .i64 mhi, .int .i64 mheld, .int .i64 mhops, .bool mgood, .bool mref, .int .i64 mslo, .int .i64 mshi, .int .i64 pulse, .int .i64 mst, .int .i64 msn, .slice Am nm cm]) rfl (by rfl) (by rfl) Tryz.underlying47 rfl (by kernel_rfl) (fun W hC => HD2.out W (HR W hC).now) ?_; (try simp only [Act.put, List.setIfInBounds_toArray, List.set_cons_zero, List.set_cons_succ, Nat.reduceAdd]))
          | ((with_reducible refine kg_call (f := 12) rfl ?_); refine ko_call 12 _ rfl (by rfl) Tryz.func12 (by kernel_rfl) rfl (by kernel_rfl) (by simp only [List.map_toArray, List.map_cons, List.map_nil]; rfl) (fun W hC hd => KSM.out W (HR W hC).now) ?_; (try simp only [Act.put, List.setIfInBounds_toArray, List.set_cons_zero, List.set_cons_succ, Nat.reduceAdd]))
          | ((with_reducible refine kg_load (ty := 30) rfl ?_); refine ko_sub HR (n := 11) rfl (by rfl) (by rfl) (by repeat (first | exact At.head | apply At.tail)) Tryz.underlying30 rfl (by kernel_rfl) (by simp only [List.toList_toArray, List.drop_succ_cons, List.drop_zero, List.take_succ_cons, List.take_zero]; rfl) (by rfl) ?_; (try simp only [Act.put, List.setIfInBounds_toArray, List.set_cons_zero, List.set_cons_succ, Nat.reduceAdd]))
          | ((with_reducible refine kg_load (ty := 23) rfl ?_); refine ko_sub HR (n := 12) rfl (by rfl) (by rfl) (by repeat (first | exact At.head | apply At.tail)) Tryz.underlying23 rfl (by kernel_rfl) (by simp only [List.toList_toArray, List.drop_succ_cons, List.drop_zero, List.take_succ_cons, List.take_zero]; rfl) (by rfl) ?_; (try simp only [Act.put, List.setIfInBounds_toArray, List.set_cons_zero, List.set_cons_succ, Nat.reduceAdd]))
          | ((with_reducible refine kg_load (ty := 42) rfl ?_); refine ko_get HR rfl (by rfl) (by rfl) (by repeat (first | exact At.head | apply At.tail)) Tryz.underlying42 rfl (by simp only [List.getElem?_toArray, List.getElem?_cons_succ, List.getElem?_cons_zero]; rfl) ?_; (try simp only [Act.put, List.setIfInBounds_toArray, List.set_cons_zero, List.set_cons_succ, Nat.reduceAdd]))
          | ((with_reducible refine kg_load (ty := 3) rfl ?_); refine ko_get HR rfl (by rfl) (by rfl) (by repeat (first | exact At.head | apply At.tail)) Tryz.underlying3 rfl (by simp only [List.getElem?_toArray, List.getElem?_cons_succ, List.getElem?_cons_zero]; rfl) ?_; (try simp only [Act.put, List.setIfInBounds_toArray, List.set_cons_zero, List.set_cons_succ, Nat.reduceAdd]))
          | ((with_reducible refine kg_load (ty := 47) rfl ?_); refine ko_sub HR (n := 14) rfl (by rfl) (by rfl) (by repeat (first | exact At.head | apply At.tail)) Tryz.underlying47 rfl (by kernel_rfl) (by simp only [List.toList_toArray, List.drop_succ_cons, List.drop_zero, List.take_succ_cons, List.take_zero]; rfl) (by rfl) ?_; (try simp only [Act.put, List.setIfInBounds_toArray, List.set_cons_zero, List.set_cons_succ, Nat.reduceAdd]))
          | (refine ko_pure rfl (by rfl) (fun W K hK => by go_simp; exact hK.out) ?_; (try simp only [Act.put, List.setIfInBounds_toArray, List.set_cons_zero, List.set_cons_succ, Nat.reduceAdd]))
          | (refine ko_off (by rfl) ?_; (try simp only [Act.put, List.setIfInBounds_toArray, List.set_cons_zero, List.set_cons_succ, Nat.reduceAdd])))
        refine ko_end ?_
        intro w1 H1
        clear HR H
        have H := H1
        clear H1
        (try simp only [List.map_cons, List.map_nil, cv, List.cons_append, List.nil_append] at H)
        go_wp2
        go_roundw
        case rel => exact ⟨i + 1, by omega, by simp, H⟩
        case measure => simp [intOf]; omega
    · obtain rfl : i = m := by omega
      clear KTold KRTold hi hit hs1 hs2 hk1 hlt hk
      go_upto_region 24 with (first
        | (go_at_call 13; have HT : Tr (fun k => k = g) _ (pR Ah heard Ax ttab A1 u.tab) := Foot.imp (Fr.trAt H (by repeat (first | exact At.head | apply At.tail))) (fun W h => HPRB.out W h.1.1.1); (with_reducible refine (KB.out _ (H.of (by repeat (first | exact At.head | apply At.tail))) HT).mono ?_); clear HT; rintro e w' ⟨A3, c3, A4, c4, rfl, hb, ho, ho', hc⟩; have H1 := Fr.turnRow2 H (by repeat (first | exact At.head | apply At.tail)) hb hc ho ho'; clear hb ho ho' hc H; have H := H1; clear H1)
        | (go_at_call 14; have HT : Tr (fun _ => False) _ (pR Ah heard Ax ttab A2 u.tab) := Foot.imp (Tr.less H.tr (fun k _ h => h.elim)) (fun W h => HPRR.out W h.1.1.1.1.1.1 h.1.1.1.1.2); (with_reducible refine (KRB.out _ HT).mono ?_); clear HT; rintro e w' ⟨A5, c5, A6, c6, rfl, ho, ho', hb⟩; have HT1 := Tr.and (Tr_row H.avs H.chg.size ho) (Tr_row H.avs H.chg.size ho'); have H1 := H.call2 hb HT1; clear hb ho ho' HT1 H; have H := H1.imp (fun _ h => And.intro (And.intro h.1 h.2.1) h.2.2); clear H1)
        | ((with_reducible refine gate_dst (N := 97) rfl ?_); refine fr_sub H (n := 6) rfl rfl rfl (by repeat (first | exact At.head | apply At.tail)) Tryz.underlying44 rfl (by kernel_rfl) (by simp only [List.toList_toArray, List.drop_succ_cons, List.drop_zero, List.take_succ_cons, List.take_zero]; rfl) (by rfl) ?_)
        | ((with_reducible refine gate_dst (N := 16) rfl ?_); refine fr_new H (N := 16) rfl rfl (cs := #[.int .i64 0, .int .i64 0, .int .i64 0, .int .i64 0, .int .i64 0, .int .i64 0, .bool false, .bool false, .int .i64 0, .int .i64 0, .int .i64 0, .int .i64 0, .int .i64 0, .slice none 0 0]) (t := 47) ?hr ?_; (case hr => first | (go_simp; done) | (go_simp; rfl)); intro g16 w16 H1; clear H; have H := H1; clear H1)
        | ((with_reducible refine gate_store (t := 47) (p := 16) rfl ?_); refine fr_put H rfl rfl rfl rfl rfl (by repeat (first | exact At.head | apply At.tail)) (by rfl) (by kernel_rfl) (by simp [Value.oneCell']) ?_; intro w16_ H1; clear H; have H := H1; clear H1)
        | ((with_reducible refine gate_dst (N := 17) rfl ?_); refine fr_new H (N := 17) rfl rfl (cs := #[.int .i64 0, .int .i64 0, .int .i64 0, .int .i64 0, .int .i64 0, .int .i64 0, .bool false, .bool false, .int .i64 0, .int .i64 0, .int .i64 0, .int .i64 0, .int .i64 0, .slice none 0 0]) (t := 47) ?hr ?_; (case hr => first | (go_simp; done) | (go_simp; rfl)); intro g17 w17 H1; clear H; have H := H1; clear H1)
        | ((with_reducible refine gate_dst (N := 100) rfl ?_); refine fr_sub H (n := 12) rfl rfl rfl (by repeat (first | exact At.head | apply At.tail)) Tryz.underlying23 rfl (by kernel_rfl) (by simp only [List.toList_toArray, List.drop_succ_cons, List.drop_zero, List.take_succ_cons, List.take_zero]; rfl) (by rfl) ?_)
        | ((with_reducible refine gate_dst (N := 102) rfl ?_); refine fr_sub H (n := 11) rfl rfl rfl (by repeat (first | exact At.head | apply At.tail)) Tryz.underlying30 rfl (by kernel_rfl) (by simp only [List.toList_toArray, List.drop_succ_cons, List.drop_zero, List.take_succ_cons, List.take_zero]; rfl) (by rfl) ?_)
        | ((with_reducible refine gate_dst (N := 103) rfl ?_); refine fr_sub H (n := 6) rfl rfl rfl (by repeat (first | exact At.head | apply At.tail)) Tryz.underlying44 rfl (by kernel_rfl) (by simp only [List.toList_toArray, List.drop_succ_cons, List.drop_zero, List.take_succ_cons, List.take_zero]; rfl) (by rfl) ?_)
        | ((with_reducible refine gate_store (t := 30) (p := 10) rfl ?_); refine fr_put H rfl rfl rfl rfl rfl (by repeat (first | exact At.head | apply At.tail)) (by rfl) (by kernel_rfl) (by simp [Value.oneCell']) ?_; intro w10_ H1; clear H; have H := H1; clear H1)
        | ((with_reducible refine gate_store (t := 47) (p := 17) rfl ?_); refine fr_put H rfl rfl rfl rfl rfl (by repeat (first | exact At.head | apply At.tail)) (by rfl) (by kernel_rfl) (by simp [Value.oneCell']) ?_; intro w17_ H1; clear H; have H := H1; clear H1)
        | fail)
      refine ko_region0 H (by kernel_rfl) (by as_aux_lemma => kernel_rfl) (fun HR => ?_)
      repeat (first
        | ((with_reducible refine kg_call (f := 12) rfl ?_); refine ko_call 12 _ rfl (by rfl) Tryz.func12 (by kernel_rfl) rfl (by kernel_rfl) (by simp only [List.map_toArray, List.map_cons, List.map_nil]; rfl) (fun W hC hd => KSay.out W A4 A6 c4 c6 (own_C' (HR W hC).now.1.1.2) (own_C' (HR W hC).now.2)) ?_; (try simp only [Act.put, List.setIfInBounds_toArray, List.set_cons_zero, List.set_cons_succ, Nat.reduceAdd]))
        | ((with_reducible refine kg_call (f := 9) rfl ?_); refine ko_call 9 _ rfl (by rfl) Tryz.func9 (by kernel_rfl) rfl (by kernel_rfl) (by simp only [List.map_toArray, List.map_cons, List.map_nil]; rfl) (fun W hC hd => KSU.out W A3 A5 c3 c5 (own_C' (HR W hC).now.1.1.1.2) (own_C' (HR W hC).now.1.2)) ?_; (try simp only [Act.put, List.setIfInBounds_toArray, List.set_cons_zero, List.set_cons_succ, Nat.reduceAdd]))
        | ((with_reducible refine kg_load (ty := 30) rfl ?_); refine ko_sub HR (n := 11) rfl (by rfl) (by rfl) (by repeat (first | exact At.head | apply At.tail)) Tryz.underlying30 rfl (by kernel_rfl) (by simp only [List.toList_toArray, List.drop_succ_cons, List.drop_zero, List.take_succ_cons, List.take_zero]; rfl) (by rfl) ?_; (try simp only [Act.put, List.setIfInBounds_toArray, List.set_cons_zero, List.set_cons_succ, Nat.reduceAdd]))
        | ((with_reducible refine kg_load (ty := 23) rfl ?_); refine ko_sub HR (n := 12) rfl (by rfl) (by rfl) (by repeat (first | exact At.head | apply At.tail)) Tryz.underlying23 rfl (by kernel_rfl) (by simp only [List.toList_toArray, List.drop_succ_cons, List.drop_zero, List.take_succ_cons, List.take_zero]; rfl) (by rfl) ?_; (try simp only [Act.put, List.setIfInBounds_toArray, List.set_cons_zero, List.set_cons_succ, Nat.reduceAdd]))
        | ((with_reducible refine kg_load (ty := 42) rfl ?_); refine ko_get HR rfl (by rfl) (by rfl) (by repeat (first | exact At.head | apply At.tail)) Tryz.underlying42 rfl (by simp only [List.getElem?_toArray, List.getElem?_cons_succ, List.getElem?_cons_zero]; rfl) ?_; (try simp only [Act.put, List.setIfInBounds_toArray, List.set_cons_zero, List.set_cons_succ, Nat.reduceAdd]))
        | ((with_reducible refine kg_load (ty := 3) rfl ?_); refine ko_get HR rfl (by rfl) (by rfl) (by repeat (first | exact At.head | apply At.tail)) Tryz.underlying3 rfl (by simp only [List.getElem?_toArray, List.getElem?_cons_succ, List.getElem?_cons_zero]; rfl) ?_; (try simp only [Act.put, List.setIfInBounds_toArray, List.set_cons_zero, List.set_cons_succ, Nat.reduceAdd]))
        | ((with_reducible refine kg_load (ty := 47) rfl ?_); refine ko_sub HR (n := 14) rfl (by rfl) (by rfl) (by repeat (first | exact At.head | apply At.tail)) Tryz.underlying47 rfl (by kernel_rfl) (by simp only [List.toList_toArray, List.drop_succ_cons, List.drop_zero, List.take_succ_cons, List.take_zero]; rfl) (by rfl) ?_; (try simp only [Act.put, List.setIfInBounds_toArray, List.set_cons_zero, List.set_cons_succ, Nat.reduceAdd]))
        | (refine ko_pure rfl (by rfl) (fun W K hK => by go_simp; exact hK.out) ?_; (try simp only [Act.put, List.setIfInBounds_toArray, List.set_cons_zero, List.set_cons_succ, Nat.reduceAdd]))
        | (refine ko_off (by rfl) ?_; (try simp only [Act.put, List.setIfInBounds_toArray, List.set_cons_zero, List.set_cons_succ, Nat.reduceAdd])))
      refine ko_end ?_
      intro w1 H1
      clear HR H
      have H := H1
      clear H1
      (try simp only [List.map_cons, List.map_nil, cv, List.cons_append, List.nil_append] at H)
      have hs1 : -9223372036854775808 ≤ (k : Int) + 1 := by omega
      have hs2 : (k : Int) + 1 ≤ 9223372036854775807 := by have := HKK.out.2; omega
      go_wp2
      go_roundw
      case rel => exact ⟨k + 1, U, A3, c3, A5, c5, by have := HKK.out.2; omega, by simp, HUT, (H.drop.drop.drop).imp (fun W h => ⟨⟨h.1.1.1.1.1.1.1.1, h.1.1.1.2⟩, h.1.2⟩)⟩
      case measure => have := HKK.out.2; simp [intOf]; omega
  · obtain rfl : k = n := by omega
    as_aux_lemma =>
      have HZ : Hid (∀ W, Calls Tryz.prog 12 #[.agg #[.int .i64 0, .int .i64 0, .int .i64 0, .int .i64 0, .int .i64 0, .int .i64 0, .bool false, .bool false, .int .i64 0, .int .i64 0, .int .i64 0, .int .i64 0, .int .i64 0, .slice none 0 0], .agg #[.int .i64 0, .int .i64 0, .int .i64 0, .int .i64 0, .int .i64 0, .int .i64 0, .bool false, .bool false, .int .i64 0, .int .i64 0, .int .i64 0, .int .i64 0, .int .i64 0, .slice none 0 0]] W fun e w' => e = .returned (.bool true) ∧ Below W.heap.size W w') := Lib.hid (fun W => RSameM_calls 0 0 0 0 0 0 false false 0 0 0 0 0 none none 0 0 0 [] W rfl ⟨rfl, by omega, fun h => by omega⟩ ⟨rfl, by omega, fun h => by omega⟩)
      go_wp2_with (first
        | (go_at_call 13; (with_reducible refine (Beat_nil _ _ rfl).mono ?_); rintro e w' ⟨rfl, hb⟩; have H1 := H.call hb; clear hb; clear H; have H := H1; clear H1)
        | (go_at_call 12; (with_reducible refine (HZ.out _).mono ?_); rintro e w' ⟨rfl, hb⟩; have H1 := H.call hb; clear hb; clear H; have H := H1; clear H1)
        | (go_at_call 15; (with_reducible refine (Say_nil _ _ _ _ _ _).mono ?_); rintro e w' ⟨rfl, hb⟩; have H1 := H.call hb; clear hb; clear H; have H := H1; clear H1)
        | fail)
      go_ret
      exact ⟨rfl, H.below⟩
end Go.Proofs.YtbmfgcekglgliaaGreat.G

namespace Go.Proofs.YtbmfgcekglgliaaGreat.XI
open Go.RowKit Go.Proofs.YtbmfgcekglgliaaGreatW.PrintWords Go.Proofs.YtbmfgcekglgliaaGreatW.PrintLast Go.Proofs.YtbmfgcekglgliaaGreatW.PrintMore
attribute [local go_sem] max2_int min2_int max_two min_two max_three min_three max_four min_four   -- for this text's walks alone
set_option linter.unusedVariables false
set_option linter.unusedSimpArgs false
def errW : Option Int → Value
  | none => .nilIface
  | some c => .iface 0 (.int .i64 c)
theorem errW_none : errW none = .nilIface := rfl
theorem errW_some (c : Int) : errW (some c) = .iface 0 (.int .i64 c) := rfl
structure S25 where
  f0 : Int
  f1 : Int
def z25 : S25 := ⟨(0 : Int), (0 : Int)⟩
def k25 : Kd S25 := Kd.iso (Kd.pair (Kd.int .i64) (Kd.int .i64)) (fun x : S25 => (x.f0, x.f1))
theorem k25_heap : Kd.Heap k25 := Kd.heap_iso _ (Kd.heap_pair (Kd.heap_int .i64) (Kd.heap_int .i64))
theorem k25_open {w : World} {x : S25} {cs : List Value} (h : k25.K w x cs) : cs = [.int .i64 x.f0, .int .i64 x.f1] := by
  obtain ⟨_, _, rfl, rfl, rfl⟩ := h
  exact rfl
theorem k25_mk (w : World) (x : S25)  : k25.K w x [.int .i64 x.f0, .int .i64 x.f1] := ⟨[.int .i64 x.f0], [.int .i64 x.f1], rfl, rfl, rfl⟩
def rd_T25 (xs : List S25) (i : Int) : S25 := xs.getD i.toNat z25
theorem at_T25 {w : World} {A : Option Addr} {n : Nat} {xs : List S25} (h : Kd.C k25 w A n xs) (i : Int) (h0 : 0 ≤ i) (h1 : i < n) : ∃ ad , A = some ad ∧ w.cell? (ad.add (i.toNat * 2)) = some (.int .i64 (rd_T25 xs i).f0) ∧ w.cell? ⟨(ad.add (i.toNat * 2)).block, (ad.add (i.toNat * 2)).off + 1, none⟩ = some (.int .i64 (rd_T25 xs i).f1) := by
  obtain ⟨ad, c, e, _, hK, hc0⟩ := Kd.C_get h z25 i h0 h1
  have hc : ∀ j u, c[j]? = some u → w.cell? (ad.add (i.toNat * 2 + j)) = some u := hc0
  obtain rfl := k25_open hK
  exact ⟨ad, e, hc 0 _ rfl, by rw [← add_field _ _ 1 (by omega)]; exact hc 1 _ rfl⟩
structure S28 where
  f0 : Int
  f1 : Int
def z28 : S28 := ⟨(0 : Int), (0 : Int)⟩
def k28 : Kd S28 := Kd.iso (Kd.pair (Kd.int .i64) (Kd.int .i64)) (fun x : S28 => (x.f0, x.f1))
theorem k28_open {w : World} {x : S28} {cs : List Value} (h : k28.K w x cs) : cs = [.int .i64 x.f0, .int .i64 x.f1] := by
  obtain ⟨_, _, rfl, rfl, rfl⟩ := h
  exact rfl
structure S58 where
  f0 : Int
  f1 : Int
def z58 : S58 := ⟨(0 : Int), (0 : Int)⟩
def k58 : Kd S58 := Kd.iso (Kd.pair (Kd.int .i64) (Kd.int .i64)) (fun x : S58 => (x.f0, x.f1))
theorem k58_heap : Kd.Heap k58 := Kd.heap_iso _ (Kd.heap_pair (Kd.heap_int .i64) (Kd.heap_int .i64))
theorem k58_open {w : World} {x : S58} {cs : List Value} (h : k58.K w x cs) : cs = [.int .i64 x.f0, .int .i64 x.f1] := by
  obtain ⟨_, _, rfl, rfl, rfl⟩ := h
  exact rfl
theorem k58_mk (w : World) (x : S58)  : k58.K w x [.int .i64 x.f0, .int .i64 x.f1] := ⟨[.int .i64 x.f0], [.int .i64 x.f1], rfl, rfl, rfl⟩
structure S47 where
  f0 : Int
  f1 : Int
  f2 : S25
  f3 : Int
  f4 : Int
  f5 : Bool
  f6 : Bool
  f7 : S25
  f8 : Int
  f9 : S28
  f10 : (List S58)
def z47 : S47 := ⟨(0 : Int), (0 : Int), z25, (0 : Int), (0 : Int), false, false, z25, (0 : Int), z28, ([] : List S58)⟩
def k47 : Kd S47 := Kd.iso (Kd.pair (Kd.int .i64) (Kd.pair (Kd.int .i64) (Kd.pair k25 (Kd.pair (Kd.int .i64) (Kd.pair (Kd.int .i64) (Kd.pair Kd.bool (Kd.pair Kd.bool (Kd.pair k25 (Kd.pair (Kd.int .i64) (Kd.pair k28 (Kd.slice 58 k58))))))))))) (fun x : S47 => (x.f0, x.f1, x.f2, x.f3, x.f4, x.f5, x.f6, x.f7, x.f8, x.f9, x.f10))
theorem k47_open {w : World} {x : S47} {cs : List Value} (h : k47.K w x cs) : ∃ A13 c13, cs = [.int .i64 x.f0, .int .i64 x.f1, .int .i64 x.f2.f0, .int .i64 x.f2.f1, .int .i64 x.f3, .int .i64 x.f4, .bool x.f5, .bool x.f6, .int .i64 x.f7.f0, .int .i64 x.f7.f1, .int .i64 x.f8, .int .i64 x.f9.f0, .int .i64 x.f9.f1, .slice A13 x.f10.length c13] ∧ x.f10.length ≤ c13 ∧ k58.C w A13 x.f10.length x.f10 := by
  obtain ⟨_, _, rfl, rfl, ⟨_, _, rfl, rfl, ⟨_, _, rfl, s2, ⟨_, _, rfl, rfl, ⟨_, _, rfl, rfl, ⟨_, _, rfl, rfl, ⟨_, _, rfl, rfl, ⟨_, _, rfl, s8, ⟨_, _, rfl, rfl, ⟨_, _, rfl, s11, ⟨A13, c13, rfl, l13, g13⟩⟩⟩⟩⟩⟩⟩⟩⟩⟩⟩ := h
  obtain rfl := k25_open s2
  obtain rfl := k25_open s8
  obtain rfl := k28_open s11
  exact ⟨A13, c13, rfl, l13, g13⟩
structure S49 where
  f0 : S47
  f1 : Int
def z49 : S49 := ⟨z47, (0 : Int)⟩
def k49 : Kd S49 := Kd.iso (Kd.pair k47 (Kd.int .i64)) (fun x : S49 => (x.f0, x.f1))
theorem k49_open {w : World} {x : S49} {cs : List Value} (h : k49.K w x cs) : ∃ A13 c13, cs = [.int .i64 x.f0.f0, .int .i64 x.f0.f1, .int .i64 x.f0.f2.f0, .int .i64 x.f0.f2.f1, .int .i64 x.f0.f3, .int .i64 x.f0.f4, .bool x.f0.f5, .bool x.f0.f6, .int .i64 x.f0.f7.f0, .int .i64 x.f0.f7.f1, .int .i64 x.f0.f8, .int .i64 x.f0.f9.f0, .int .i64 x.f0.f9.f1, .slice A13 x.f0.f10.length c13, .int .i64 x.f1] ∧ x.f0.f10.length ≤ c13 ∧ k58.C w A13 x.f0.f10.length x.f0.f10 := by
  obtain ⟨_, _, rfl, s0, rfl⟩ := h
  obtain ⟨A13, c13, rfl, l13, g13⟩ := k47_open s0
  exact ⟨A13, c13, rfl, l13, g13⟩
structure S44 where
  f0 : Int
  f1 : (List S49)
  f2 : Bool
  f3 : Int
  f4 : Bool
  f5 : (List S58)
def z44 : S44 := ⟨(0 : Int), ([] : List S49), false, (0 : Int), false, ([] : List S58)⟩
def k44 : Kd S44 := Kd.iso (Kd.pair (Kd.int .i64) (Kd.pair (Kd.slice 49 k49) (Kd.pair Kd.bool (Kd.pair (Kd.int .i64) (Kd.pair Kd.bool (Kd.slice 58 k58)))))) (fun x : S44 => (x.f0, x.f1, x.f2, x.f3, x.f4, x.f5))
theorem k44_open {w : World} {x : S44} {cs : List Value} (h : k44.K w x cs) : ∃ A1 c1 A5 c5, cs = [.int .i64 x.f0, .slice A1 x.f1.length c1, .bool x.f2, .int .i64 x.f3, .bool x.f4, .slice A5 x.f5.length c5] ∧ x.f1.length ≤ c1 ∧ k49.C w A1 x.f1.length x.f1 ∧ x.f5.length ≤ c5 ∧ k58.C w A5 x.f5.length x.f5 := by
  obtain ⟨_, _, rfl, rfl, ⟨_, _, rfl, ⟨A1, c1, rfl, l1, g1⟩, ⟨_, _, rfl, rfl, ⟨_, _, rfl, rfl, ⟨_, _, rfl, rfl, ⟨A5, c5, rfl, l5, g5⟩⟩⟩⟩⟩⟩ := h
  exact ⟨A1, c1, A5, c5, rfl, l1, g1, l5, g5⟩
end Go.Proofs.YtbmfgcekglgliaaGreat.XI

namespace Go.Proofs.YtbmfgcekglgliaaGreat.G
open Go.RowKit Go.Proofs.YtbmfgcekglgliaaGreatW.PrintWords Go.Proofs.YtbmfgcekglgliaaGreatW.PrintLast Go.Proofs.YtbmfgcekglgliaaGreatW.PrintMore Go.Proofs.YtbmfgcekglgliaaGreatPl Go.Proofs.YtbmfgcekglgliaaGreatEm Go.Proofs.YtbmfgcekglgliaaGreatKr Go.Proofs.YtbmfgcekglgliaaGreatRz
set_option linter.unusedVariables false
theorem RowH.tr {w : World} {A : Option Addr} {l : List Hd} (h : RowH w A l) : Tr (fun _ => False) w (fun W => RowH W A l) := by
  intro W' hW k hk
  obtain ⟨ad, e, hc⟩ := h k hk
  refine ⟨ad, e, fun j u hu => ?_⟩
  have h5 := hc j u hu
  have h6 := World.block_lt_of_cell? w _ h5
  have hb := hW _ (fun q => q) h6
  rw [show W'.cell? ((ad.add (k * 15)).add j) = w.cell? ((ad.add (k * 15)).add j) by simp [World.cell?, hb]]
  exact h5
theorem RowI.tr {w : World} {A : Option Addr} {l : List InC} (h : RowI w A l) : Tr (fun _ => False) w (fun W => RowI W A l) := by
  intro W' hW k hk
  obtain ⟨⟨ad, e, hc⟩, h2⟩ := h k hk
  refine ⟨⟨ad, e, fun j u hu => ?_⟩, RowH.tr h2 W' hW⟩
  have h5 := hc j u hu
  have h6 := World.block_lt_of_cell? w _ h5
  have hb := hW _ (fun q => q) h6
  rw [show W'.cell? ((ad.add (k * 6)).add j) = w.cell? ((ad.add (k * 6)).add j) by simp [World.cell?, hb]]
  exact h5
theorem TabH.tr {w : World} {h : Hd} (g : TabH w h) : Tr (fun _ => False) w (fun W => TabH W h) := fun W' hW => by
  obtain ⟨t, ht, hC⟩ := g
  exact ⟨t, ht, Go.Proofs.YtbmfgcekglgliaaGreatEv.Tr.of_C hC Go.Proofs.YtbmfgcekglgliaaGreat.X.k58_heap W' hW⟩
theorem InAll.tr {w : World} {A : Option Addr} {l : List InC} (h : InAll w A l) : Tr (fun _ => False) w (fun W => InAll W A l) := fun W' hW =>
  ⟨RowI.tr h.1 W' hW, fun y hy => ⟨Go.Proofs.YtbmfgcekglgliaaGreatEv.Tr.of_C (h.2 y hy).1 Go.Proofs.YtbmfgcekglgliaaGreat.X.k58_heap W' hW, fun q hq => TabH.tr ((h.2 y hy).2 q hq) W' hW⟩⟩
def cvL (x : Go.Proofs.YtbmfgcekglgliaaGreat.XI.S58) : Lp := ⟨x.f0, x.f1⟩
theorem leapXI {W : World} {A : Option Addr} {n : Nat} {l : List Go.Proofs.YtbmfgcekglgliaaGreat.XI.S58} (h : Kd.C Go.Proofs.YtbmfgcekglgliaaGreat.XI.k58 W A n l) : Kd.C Go.Proofs.YtbmfgcekglgliaaGreat.X.k58 W A n (l.map cvL) := by
  refine ⟨by rw [List.length_map]; exact h.1, h.2.1, fun h0 => ?_⟩
  obtain ⟨ad, e, hq⟩ := h.2.2 h0
  refine ⟨ad, e, fun j q hjq => ?_⟩
  rw [List.getElem?_map] at hjq
  obtain ⟨x, hx, rfl⟩ := Option.map_eq_some_iff.1 hjq
  exact hq j x hx
def hdX (x : Go.Proofs.YtbmfgcekglgliaaGreat.XI.S49) (A : Option Addr) (c : Nat) : Hd := ⟨x.f0.f0, x.f0.f1, x.f0.f2.f0, x.f0.f2.f1, x.f0.f3, x.f0.f4, x.f0.f5, x.f0.f6, x.f0.f7.f0, x.f0.f7.f1, x.f0.f8, x.f0.f9.f0, x.f0.f9.f1, A, x.f0.f10.length, c, x.f1⟩
theorem heardXI {w : World} {A : Option Addr} {l : List Go.Proofs.YtbmfgcekglgliaaGreat.XI.S49} (h : Kd.C Go.Proofs.YtbmfgcekglgliaaGreat.XI.k49 w A l.length l) : ∃ hs : List Hd, hs.length = l.length ∧ RowH w A hs ∧ ∀ q, q ∈ hs → TabH w q := by
  have each : ∀ k, k < l.length → ∃ x : Hd, TabH w x ∧ ∃ ad, A = some ad ∧ ∀ j u, (encH x)[j]? = some u → w.cell? ((ad.add (k * 15)).add j) = some u := by
    intro k hk
    obtain ⟨ad, c, e, _, hK, hc⟩ := Kd.C_get h Go.Proofs.YtbmfgcekglgliaaGreat.XI.z49 k (by omega) (by omega)
    have hg : l.getD (k : Int).toNat Go.Proofs.YtbmfgcekglgliaaGreat.XI.z49 = l[k] := by simp [List.getD_eq_getElem?_getD, hk]
    rw [hg] at hK
    obtain ⟨A1, c1, e2, e3, e4⟩ := Go.Proofs.YtbmfgcekglgliaaGreat.XI.k49_open hK
    refine ⟨hdX l[k] A1 c1, ⟨_, by rw [List.length_map]; rfl, leapXI e4⟩, ad, e, fun j u hu => ?_⟩
    rw [add_add]
    have := hc j u (by rw [e2]; exact hu)
    rw [show (k : Int).toNat = k by omega] at this
    exact this
  obtain ⟨hs, h1, h2⟩ := Go.Proofs.YtbmfgcekglgliaaGreatRo.list_of (Q := fun k x => TabH w x ∧ ∃ ad, A = some ad ∧ ∀ j u, (encH x)[j]? = some u → w.cell? ((ad.add (k * 15)).add j) = some u) l.length each
  refine ⟨hs, h1, fun k hk => (h2 k hs[k] (List.getElem?_eq_getElem hk)).2, fun q hq => ?_⟩
  obtain ⟨k, hk, e⟩ := List.getElem_of_mem hq
  have := (h2 k hs[k] (List.getElem?_eq_getElem hk)).1
  rw [e] at this
  exact this
theorem inXI {w : World} {A : Option Addr} {l : List Go.Proofs.YtbmfgcekglgliaaGreat.XI.S44} (h : Kd.C Go.Proofs.YtbmfgcekglgliaaGreat.XI.k44 w A l.length l) : ∃ ys : List InC, ys.length = l.length ∧ InAll w A ys ∧ ∀ y, y ∈ ys → y.x.heard.length ≤ 9223372036854775807 := by
  have each : ∀ k, k < l.length → ∃ y : InC, (Kd.C Go.Proofs.YtbmfgcekglgliaaGreat.X.k58 w y.Ax y.x.tab.length y.x.tab ∧ (∀ q, q ∈ y.x.heard → TabH w q) ∧ y.x.heard.length ≤ 9223372036854775807) ∧ RowH w y.Ah y.x.heard ∧ ∃ ad, A = some ad ∧ ∀ j u, (encI y)[j]? = some u → w.cell? ((ad.add (k * 6)).add j) = some u := by
    intro k hk
    obtain ⟨ad, c, e, _, hK, hc⟩ := Kd.C_get h Go.Proofs.YtbmfgcekglgliaaGreat.XI.z44 k (by omega) (by omega)
    have hg : l.getD (k : Int).toNat Go.Proofs.YtbmfgcekglgliaaGreat.XI.z44 = l[k] := by simp [List.getD_eq_getElem?_getD, hk]
    rw [hg] at hK
    obtain ⟨A1, c1, A5, c5, e2, e3, e4, e5, e6⟩ := Go.Proofs.YtbmfgcekglgliaaGreat.XI.k44_open hK
    obtain ⟨hs, q1, q2, q3⟩ := heardXI e4
    refine ⟨⟨⟨l[k].f0, hs, l[k].f2, l[k].f3, l[k].f4, l[k].f5.map cvL⟩, A1, c1, A5, c5⟩, ⟨?_, q3, ?_⟩, q2, ad, e, fun j u hu => ?_⟩
    · dsimp only
      rw [List.length_map]
      exact leapXI e6
    · dsimp only
      rw [q1]
      exact e4.2.1
    · rw [add_add]
      have e7 : encI ⟨⟨l[k].f0, hs, l[k].f2, l[k].f3, l[k].f4, l[k].f5.map cvL⟩, A1, c1, A5, c5⟩ = [.int .i64 l[k].f0, .slice A1 l[k].f1.length c1, .bool l[k].f2, .int .i64 l[k].f3, .bool l[k].f4, .slice A5 l[k].f5.length c5] := by
        unfold encI
        dsimp only
        rw [q1, List.length_map]
      rw [e7] at hu
      have := hc j u (by rw [e2]; exact hu)
      rw [show (k : Int).toNat = k by omega] at this
      exact this
  obtain ⟨ys, h1, h2⟩ := Go.Proofs.YtbmfgcekglgliaaGreatRo.list_of (Q := fun k (y : InC) => (Kd.C Go.Proofs.YtbmfgcekglgliaaGreat.X.k58 w y.Ax y.x.tab.length y.x.tab ∧ (∀ q, q ∈ y.x.heard → TabH w q) ∧ y.x.heard.length ≤ 9223372036854775807) ∧ RowH w y.Ah y.x.heard ∧ ∃ ad, A = some ad ∧ ∀ j u, (encI y)[j]? = some u → w.cell? ((ad.add (k * 6)).add j) = some u) l.length each
  have at_ : ∀ y, y ∈ ys → ∃ k, ∃ hk : k < ys.length, ys[k] = y := fun y hy => by
    obtain ⟨k, hk, e⟩ := List.getElem_of_mem hy
    exact ⟨k, hk, e⟩
  refine ⟨ys, h1, ⟨fun k hk => ⟨(h2 k ys[k] (List.getElem?_eq_getElem hk)).2.2, (h2 k ys[k] (List.getElem?_eq_getElem hk)).2.1⟩, fun y hy => ?_⟩, fun y hy => ?_⟩
  · obtain ⟨k, hk, e⟩ := at_ y hy
    have := (h2 k ys[k] (List.getElem?_eq_getElem hk)).1
    rw [e] at this
    exact ⟨this.1, this.2.1⟩
  · obtain ⟨k, hk, e⟩ := at_ y hy
    have := (h2 k ys[k] (List.getElem?_eq_getElem hk)).1
    rw [e] at this
    exact this.2.2
theorem clepsydralaw22_GateDoes.calls (a0_0 a0_1 a0_2 a0_3 a0_4 a0_5 a0_6 a0_7 a0_8 a0_9 a0_10 a0_11 : Int) (a1 : Int) (a2_0 a2_1 a2_2 : Int) (a2_3 : Bool) (a2_4 a2_5 : Int) (a2_6 : Bool) (A2_7 : Option Addr) (c2_7 : Nat) (l2_7 : List Go.Proofs.YtbmfgcekglgliaaGreat.XI.S58) (a2_8 a2_9 a2_10 : Int) (A3 : Option Addr) (c3 : Nat) (l3 : List Go.Proofs.YtbmfgcekglgliaaGreat.XI.S44) (w : World) (hr2 : Kd.C Go.Proofs.YtbmfgcekglgliaaGreat.XI.k58 w A2_7 l2_7.length l2_7) (hc2 : l2_7.length ≤ c2_7) (hr3 : Kd.C Go.Proofs.YtbmfgcekglgliaaGreat.XI.k44 w A3 l3.length l3) (hc3 : l3.length ≤ c3) :
    Calls Tryz.prog 3 #[.agg #[.int .i64 a0_0, .int .i64 a0_1, .int .i64 a0_2, .int .i64 a0_3, .int .i64 a0_4, .int .i64 a0_5, .int .i64 a0_6, .int .i64 a0_7, .int .i64 a0_8, .int .i64 a0_9, .int .i64 a0_10, .int .i64 a0_11], .int .i64 a1, .agg #[.int .i64 a2_0, .int .i64 a2_1, .int .i64 a2_2, .bool a2_3, .int .i64 a2_4, .int .i64 a2_5, .bool a2_6, .slice A2_7 l2_7.length c2_7, .int .i64 a2_8, .int .i64 a2_9, .int .i64 a2_10], .slice A3 l3.length c3] w fun e w' => e = .returned (.bool true) ∧ Below w.heap.size w w' := by
  obtain ⟨ys, h1, h2, h3⟩ := inXI hr3
  have hl := leapXI hr2
  have hm : (l2_7.map cvL).length = l2_7.length := List.length_map ..
  have := Does_calls ⟨a0_0, a0_1, a0_2, a0_3, a0_4, a0_5, a0_6, a0_7, a0_8, a0_9, a0_10, a0_11⟩ a1 ⟨a2_0, a2_1, a2_2, a2_3, a2_4, a2_5, a2_6, l2_7.map cvL, a2_8, a2_9, a2_10⟩ A2_7 c2_7 A3 c3 ys w (Tr.and (InAll.tr h2) (Go.Proofs.YtbmfgcekglgliaaGreatEv.Tr.of_C (by dsimp only; rw [hm]; exact hl) Go.Proofs.YtbmfgcekglgliaaGreat.X.k58_heap)) (by rw [h1]; exact hr3.2.1) h3
  dsimp only at this
  rw [h1, hm] at this
  exact this
end Go.Proofs.YtbmfgcekglgliaaGreat.G
