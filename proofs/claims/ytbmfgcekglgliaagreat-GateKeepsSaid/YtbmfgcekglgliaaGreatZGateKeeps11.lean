/- Texts Yl, Yn, XR0, in one file, without what is not needed here. -/
import Derived.Test.YtbmfgcekglgliaaGreatProg
import Derived.Below
import Derived.Deep.Draws
import Derived.Deep.AppendLies
import Derived.Maps.AppendAt
import Derived.OwnWalk
import Derived.Laws.BytesArg
import Derived.Laws.MakeOwn
import Derived.Laws.OwnMore
import Derived.Deep.OwnRows
import Derived.Tactics
import Derived.Lib.ConvBytes
import Derived.Laws.Slices
import Derived.WalkKit
import Derived.KernelRfl
import Derived.RowKit3
import Derived.Deep.LoopGhost
import Derived.Deep.QuietTactic
import Derived.BigQuiet
import Derived.WideLaws
import Derived.Deep.DeepCutAuto
import Derived.Deep.CutBlock
import Derived.Deep.RegionHeld3
import Derived.Laws.Rows
import Derived.Lib.AppendStr
import Derived.ArgAppend
import Derived.Laws.IdiomCopy
import Derived.OrdersHeld
import Derived.Laws.BitsLemmas
import Derived.RowKit
import Derived.Test.YtbmfgcekglgliaaGreatZGateKeeps10
namespace Go.Proofs.YtbmfgcekglgliaaGreat.G
open Go.RowKit Go.Proofs.YtbmfgcekglgliaaGreatW.PrintWords Go.Proofs.YtbmfgcekglgliaaGreatW.PrintLast Go.Proofs.YtbmfgcekglgliaaGreatW.PrintMore Go.Proofs.YtbmfgcekglgliaaGreatPl Go.Proofs.YtbmfgcekglgliaaGreatEm Go.Proofs.YtbmfgcekglgliaaGreatKr Go.Proofs.YtbmfgcekglgliaaGreatRz Go.Proofs.YtbmfgcekglgliaaGreat.X
set_option linter.unusedVariables false
set_option linter.unusedSimpArgs false
section
variable {P : Program} {ops : Array Oper} {Q : Exit → Act → World → Prop} {ds : List Nat} {n i : Nat} {dn : List Nat} {a : Act} {W : World} {o : Oper} {rest : List (Nat × Oper)} {v : Value} {M0 A0 : Nat → Prop} {w0 : World} {bl0 : List (Nat × Obj)} {p0 : World → Prop} {S : World → Prop}
theorem ro_rowB {m : Nat} {cs : Array Value} {t : TypeId} (hc : readyB .any ops (mk n dn) (mk n (i :: dn)) i = true) (hd : ds.contains i = false) (hw : Region.wanted o (yielded ops a.tmps) = true)
    (hrun : ∀ K : Result Next → Prop, Hid (K (.ok (.value (.slice (some ⟨W.heap.size, 0, none⟩) m m)) (W.alloc (.cells cs t (0, 0))))) → K ((execOp a.eval o).run P W))
    (hS : ∀ w1, Below W.heap.size W w1 → S w1)
    (h : ∀ g w1, g = W.heap.size → w1.heap[g]? = some (.cells cs t (0, 0)) → Below W.heap.size W w1 → RO P ops Q S ds n (i :: dn) rest (a.put o.dst (.slice (some ⟨g, 0, none⟩) m m)) w1) : RO P ops Q S ds n dn ((i, o) :: rest) a W := by
  refine ro_one hc hd hw fun K hK => ?_
  have hr := hrun (fun r => r = .ok (.value (.slice (some ⟨W.heap.size, 0, none⟩) m m)) (W.alloc (.cells cs t (0, 0)))) (Lib.hid rfl)
  have hb : Below W.heap.size W (W.alloc (.cells cs t (0, 0))) := below_alloc (Below.refl _ _) _
  unfold Oper.wp
  rw [hr]
  exact hK _ _ (hS _ hb) (fun _ => h _ _ rfl (blk_new W (.cells cs t (0, 0))) hb)
theorem ro_runB (hc : readyB .any ops (mk n dn) (mk n (i :: dn)) i = true) (hd : ds.contains i = false) (hw : Region.wanted o (yielded ops a.tmps) = true)
    (hrun : ∀ K : Result Next → Prop, Hid (K (.ok (.value v) W)) → K ((execOp a.eval o).run P W)) (hS : S W)
    (h : RO P ops Q S ds n (i :: dn) rest (a.put o.dst v) W) : RO P ops Q S ds n dn ((i, o) :: rest) a W := by
  refine ro_one hc hd hw fun K hK => ?_
  have hr := hrun (fun r => r = .ok (.value v) W) (Lib.hid rfl)
  unfold Oper.wp
  rw [hr]
  exact hK _ _ hS (fun _ => h)
theorem ro_appendB (hc : readyB .any ops (mk n dn) (mk n (i :: dn)) i = true) (hd : ds.contains i = false) (hw : Region.wanted o (yielded ops a.tmps) = true) (s x : Operand) (t : TypeId)
    (ho : o.op = .call { callee := .builtin .append, args := #[s, x], argTypes := #[t, t] })
    (base : Nat) (e : TypeId) (ti : TypeInfo) (z : Value) (size bytes : Nat) (ht : P.underlying t = some (.slice e)) (hi : P.info? e = some ti) (hz : ti.zero = some z)
    (hsize : ti.size = size) (hby : ti.bytes = bytes) (hzs : z.cells.size = size) (hsz : 0 < size)
    (u : Value) (nn : Nat) (xs : List Value) (hs : a.eval s = u) (hown : W.ownsRow base e size u nn xs)
    (ad : Addr) (m c : Nat) (news : List Value) (hx : a.eval x = .slice (some ad) m c) (hl : news.length = m * size) (hnews : ∀ j q, news[j]? = some q → W.cell? (ad.add j) = some q) (h1 : ∀ q ∈ news, q.oneCell' = true)
    (h63 : nn + m ≤ maxLen) (hbytes : (nn + m) * bytes ≤ 140737488355328) (hbase : base ≤ W.heap.size)
    (h : ∀ v' w', w'.ownsRow base e size v' (nn + m) (xs ++ news) → W.grownBy w' u.ownBlock → (v' = .slice none 0 0 ↔ u = .slice none 0 0 ∧ m = 0) → (v'.ownBlock = u.ownBlock ∨ v'.ownBlock = some W.heap.size) → S w' ∧ RO P ops Q S ds n (i :: dn) rest (a.put o.dst v') w') :
    RO P ops Q S ds n dn ((i, o) :: rest) a W := by
  refine ro_one hc hd hw fun K hK => ?_
  obtain ⟨v', w', hr, h2, h3, h4, h5⟩ := run_append_own_at (P := P) W base t o.type e ti z size bytes ht hi hz hsize hby hzs hsz u nn xs hown ad m c news hl hnews h1 h63 hbytes hbase
  unfold Oper.wp execOp
  simp only [ho, resolve, invoke, builtin, Sem.run_bind, Sem.run_pure, Result.andThen_ok, List.map_toArray, List.map_cons, List.map_nil, hs, hx, hr]
  obtain ⟨q1, q2⟩ := h v' w' h2 h3 h4 h5
  exact hK _ _ q1 (fun _ => q2)
theorem ro_setB {bl' : List (Nat × Obj)} (H : Fr M0 A0 w0 W bl0 p0) {t : TypeId} {x y : Operand} (ho : o.op = .store t x y) (hN : o.dst = none) (hc : readyB .any ops (mk n dn) (mk n (i :: dn)) i = true) (hd : ds.contains i = false) (hw : Region.wanted o (yielded ops a.tmps) = true) {g j : Nat} {e : TypeId} {old cs : Array Value} {u : Value}
    (hp : a.eval x = .pointer (some ⟨g, j, none⟩)) (hv : a.eval y = u) (ha : At bl0 g (.cells old e (0, 0)) (.cells cs e (0, 0)) bl') (hs : j + u.cells.size ≤ old.size) (hcs : cs.toList = old.toList.take j ++ u.cells.toList ++ old.toList.drop (j + u.cells.size)) (ht : (P.info? t).map (·.size) = some u.cells.size) (h1 : ∀ q ∈ u.cells.toList, q.oneCell' = true)
    (h : ∀ w1, Fr M0 A0 w0 w1 bl' p0 → S w1 ∧ RO P ops Q S ds n (i :: dn) rest a w1) : RO P ops Q S ds n dn ((i, o) :: rest) a W := by
  have hg := (H.blk _ ha.mem).1
  refine ro_one hc hd hw fun K hK => ?_
  have hr := run_store_run (P := P) (w := W) (g := g) (o := j) (e := e) (cur := old) t u u.cells.toList hg rfl (by rw [ht, Array.length_toList]) (by rw [Array.length_toList]; omega) h1
  unfold Oper.wp execOp
  simp only [ho, hp, hv, hr, Sem.run_bind, Sem.run_pure, Result.andThen_ok]
  show K (a.put o.dst undef) _
  rw [hN]
  have hK' : ∀ a' w', (S w' ∧ RO P ops Q S ds n (i :: dn) rest a' w') → K a' w' := fun a' w' q => hK _ _ q.1 (fun _ => q.2)
  refine hK' _ _ (h _ (H.put ha ?_ ?_ ?_ ?_))
  · obtain ⟨cur', h3, h4, h5⟩ := setCells_row u.cells.toList j W old hg (by rw [Array.length_toList]; omega)
    have h6 : cur' = cs := by
      apply Array.ext'
      rw [h5, hcs, Array.length_toList]
    rw [h3, h6]
  · obtain ⟨s1, s2, s3, s4⟩ := setCells_same g u.cells.toList j W
    exact ⟨s1, s2, s3, by rw [s4]; exact Nat.le_refl _, fun k _ hk => setCells_far _ _ k (fun he => hk (by rw [he]))⟩
  · exact fun k hk => setCells_far _ _ k hk
  · exact (setCells_same g u.cells.toList j W).2.2.2
end
set_option maxRecDepth 100000 in
set_option maxHeartbeats 16000000 in
theorem RSay_calls (p : Par) (s : St) (A : Option Addr) (c : Nat) (kind me : Int) (rd : Bool) (slo shi : Int) (w : World) (hr : Kd.C k58 w A s.tab.length s.tab) (hl : s.tab.length ≤ 4096) :
    Calls Tryz.prog 41 #[.agg #[.int .i64 p.N, .int .i64 p.F, .int .i64 p.D, .int .i64 p.Be, .int .i64 p.Rho, .int .i64 p.De, .int .i64 p.Ji, .int .i64 p.Eps, .int .i64 p.Mu, .int .i64 p.Ho, .int .i64 p.Pu, .int .i64 p.Se], .agg #[.int .i64 s.lo, .int .i64 s.hi, .int .i64 s.time, .bool s.set, .int .i64 s.held, .int .i64 s.hops, .bool s.good, .slice A s.tab.length c, .int .i64 s.st, .int .i64 s.sn, .int .i64 s.life], .int .i64 kind, .int .i64 me, .bool rd, .agg #[.int .i64 slo, .int .i64 shi]] w fun e w' => ∃ A' c', e = .returned (.tuple #[.agg #[.int .i64 s.lo, .int .i64 s.hi, .int .i64 s.time, .bool s.set, .int .i64 s.held, .int .i64 s.hops, .bool s.good, .slice A s.tab.length c, .int .i64 (tickP s.st s.sn s.time).1, .int .i64 (tickP s.st s.sn s.time).2, .int .i64 s.life], .agg #[.int .i64 kind, .int .i64 me, .int .i64 s.lo, .int .i64 s.hi, .int .i64 s.held, .int .i64 s.hops, .bool s.good, .bool rd, .int .i64 slo, .int .i64 shi, .int .i64 (pulseS p s), .int .i64 (tickP s.st s.sn s.time).1, .int .i64 (tickP s.st s.sn s.time).2, .slice A' s.tab.length c']]) ∧ w'.ownsRow w.heap.size 58 2 (.slice A' s.tab.length c') s.tab.length (flL s.tab) ∧ Below w.heap.size w w' := by
  have HR0 : Hid (Tr (fun _ => False) w (fun W => Kd.C k58 W A s.tab.length s.tab)) := Lib.hid (Go.Proofs.YtbmfgcekglgliaaGreatEv.Tr.of_C hr k58_heap)
  have H := Fr.start0 (M := fun _ => False) (A := fun _ => False) (w := w) (p := fun W => Kd.C k58 W A s.tab.length s.tab) (fun _ h => h.elim) HR0.out
  obtain ⟨i0, hi0, hz0, hz1, hz2⟩ := info_parts infoL
  have KSt := Lib.hid (fun W A c => RStamped_calls s A c W)
  obtain ⟨⟨t1, t2⟩, ht⟩ : ∃ x, tickP s.st s.sn s.time = x := ⟨_, rfl⟩
  obtain ⟨o, ho⟩ : ∃ x, ofP p s.set s.good s.held s.hops = x := ⟨_, rfl⟩
  obtain ⟨nu, hnu⟩ : ∃ x, numP p s.time = x := ⟨_, rfl⟩
  have HPU : Hid (pulseS p s = if (o == 0) = true then 0 else nu) := Lib.hid (by unfold pulseS syncE; rw [ho, hnu]; cases (o == 0) <;> rfl)
  have KOf : Hid (∀ W A n c, Calls Tryz.prog 75 #[.agg #[.int .i64 p.N, .int .i64 p.F, .int .i64 p.D, .int .i64 p.Be, .int .i64 p.Rho, .int .i64 p.De, .int .i64 p.Ji, .int .i64 p.Eps, .int .i64 p.Mu, .int .i64 p.Ho, .int .i64 p.Pu, .int .i64 p.Se], .agg #[.int .i64 s.lo, .int .i64 s.hi, .int .i64 s.time, .bool s.set, .int .i64 s.held, .int .i64 s.hops, .bool s.good, .slice A n c, .int .i64 s.st, .int .i64 s.sn, .int .i64 s.life]] W fun e w' => e = .returned (.int .i64 o) ∧ Below W.heap.size W w') := Lib.hid (fun W A n c => ho ▸ ROf_calls p s.lo s.hi s.time s.set s.held s.hops s.good A n c s.st s.sn s.life W)
  have KNum : Hid (∀ W, Calls Tryz.prog 76 #[.agg #[.int .i64 p.N, .int .i64 p.F, .int .i64 p.D, .int .i64 p.Be, .int .i64 p.Rho, .int .i64 p.De, .int .i64 p.Ji, .int .i64 p.Eps, .int .i64 p.Mu, .int .i64 p.Ho, .int .i64 p.Pu, .int .i64 p.Se], .int .i64 s.time] W fun e w' => e = .returned (.int .i64 nu) ∧ Below W.heap.size W w') := Lib.hid (fun W => hnu ▸ RNumber_calls p s.time W)
  rw [ht] at KSt ⊢
  obtain ⟨lo, hi, time, set, held, hops, good, tab, st, sn, life⟩ := s
  dsimp only at H HR0 KSt KOf KNum HPU hr hl ⊢
  obtain ⟨n, hn⟩ : ∃ n, tab.length = n := ⟨_, rfl⟩
  have HN := Lib.hid hn
  have HFL : Hid ((flL tab).length = n * 2) := Lib.hid (by rw [flL_length, hn])
  have HNB : Hid (n ≤ 4096) := Lib.hid (hn ▸ hl)
  have hcs : ((o == 0) = true ∧ (o != 0) = false) ∨ ((o == 0) = false ∧ (o != 0) = true) := by
    by_cases h : o = 0
    · exact .inl ⟨by simp [h], by simp [h]⟩
    · exact .inr ⟨by simp [h], by simp [h]⟩
  have HRW := Lib.hid hr
  rw [hn] at KSt ⊢
  clear hr hl hn ht ho hnu
  go_enter Tryz.func41, Tryz.ntmps41
  cases A with
  | none =>
    have h0 : tab = [] := by
      cases tab with
      | nil => rfl
      | cons x r =>
        obtain ⟨ad, e, _⟩ := leap_row HRW.out (Below.refl _ _) 0 (by simp)
        cases e
    have hn0 : n = 0 := by rw [← HN.out, h0]; rfl
    have HT0 := Lib.hid h0
    subst hn0
    clear h0
    rcases hcs with ⟨h1, h2⟩ | ⟨h1, h2⟩
    all_goals
      rw [h1] at HPU
      clear h1
      go_upto_region 5 with (first
        | (go_at_call 75; (with_reducible refine (KOf.out _ _ _ _).mono ?_); rintro e w' ⟨rfl, hb⟩; have H1 := H.call hb; clear hb; replace H := H1; clear H1)
        | (go_at_call 76; (with_reducible refine (KNum.out _).mono ?_); rintro e w' ⟨rfl, hb⟩; have H1 := H.call hb; clear hb; replace H := H1; clear H1)
        | (go_at_call 77; (with_reducible refine (KSt.out _ _ _).mono ?_); rintro e w' ⟨rfl, hb⟩; have H1 := H.call hb; clear hb; replace H := H1; clear H1)
        | ((with_reducible refine gate_dst (N := 6) rfl ?_); refine fr_box H rfl rfl rfl ?_; intro g6 w6 H1; replace H := H1; clear H1)
        | ((with_reducible refine gate_dst (N := 7) rfl ?_); refine fr_box H rfl rfl rfl ?_; intro g7 w7 H1; replace H := H1; clear H1)
        | ((with_reducible refine gate_dst (N := 11) rfl ?_); refine fr_box H rfl rfl rfl ?_; intro g11 w11 H1; replace H := H1; clear H1)
        | ((with_reducible refine gate_dst (N := 12) rfl ?_); refine fr_new H (N := 12) rfl rfl (cs := #[.int .i64 0, .int .i64 0, .int .i64 0, .bool false, .int .i64 0, .int .i64 0, .bool false, .slice none 0 0, .int .i64 0, .int .i64 0, .int .i64 0]) (t := 30) ?hr ?_; (case hr => first | (go_simp; done) | (go_simp; rfl)); intro g12 w12 H1; replace H := H1; clear H1)
        | ((with_reducible refine gate_dst (N := 13) rfl ?_); refine fr_new H (N := 13) rfl rfl (cs := #[.int .i64 0, .int .i64 0, .int .i64 0, .int .i64 0, .int .i64 0, .int .i64 0, .bool false, .bool false, .int .i64 0, .int .i64 0, .int .i64 0, .int .i64 0, .int .i64 0, .slice none 0 0]) (t := 47) ?hr ?_; (case hr => first | (go_simp; done) | (go_simp; rfl)); intro g13 w13 H1; replace H := H1; clear H1)
        | ((with_reducible refine gate_dst (N := 15) rfl ?_); refine fr_sub H (n := 12) rfl rfl rfl (by repeat (first | exact At.head | apply At.tail)) Tryz.underlying23 rfl (by kernel_rfl) (by simp only [List.toList_toArray, List.drop_succ_cons, List.drop_zero, List.take_succ_cons, List.take_zero]; rfl) (by rfl) ?_)
        | ((with_reducible refine gate_dst (N := 16) rfl ?_); refine fr_sub H (n := 11) rfl rfl rfl (by repeat (first | exact At.head | apply At.tail)) Tryz.underlying30 rfl (by kernel_rfl) (by simp only [List.toList_toArray, List.drop_succ_cons, List.drop_zero, List.take_succ_cons, List.take_zero]; rfl) (by rfl) ?_)
        | ((with_reducible refine gate_dst (N := 19) rfl ?_); refine fr_sub H (n := 12) rfl rfl rfl (by repeat (first | exact At.head | apply At.tail)) Tryz.underlying23 rfl (by kernel_rfl) (by simp only [List.toList_toArray, List.drop_succ_cons, List.drop_zero, List.take_succ_cons, List.take_zero]; rfl) (by rfl) ?_)
        | ((with_reducible refine gate_dst (N := 21) rfl ?_); refine fr_get H rfl rfl rfl (by repeat (first | exact At.head | apply At.tail)) Tryz.underlying3 rfl (by simp only [List.getElem?_toArray, List.getElem?_cons_succ, List.getElem?_cons_zero]; rfl) ?_)
        | ((with_reducible refine gate_dst (N := 23) rfl ?_); refine fr_sub H (n := 11) rfl rfl rfl (by repeat (first | exact At.head | apply At.tail)) Tryz.underlying30 rfl (by kernel_rfl) (by simp only [List.toList_toArray, List.drop_succ_cons, List.drop_zero, List.take_succ_cons, List.take_zero]; rfl) (by rfl) ?_)
        | ((with_reducible refine gate_store (t := 30) (p := 7) rfl ?_); refine fr_put H rfl rfl rfl rfl rfl (by repeat (first | exact At.head | apply At.tail)) (by rfl) (by kernel_rfl) (by simp [Value.oneCell']) ?_; intro w7_ H1; replace H := H1; clear H1)
        | fail)
      have HF := H.drewN 1
      have HS := H.drop.drop
      clear H
      have H := HS
      clear HS
      refine ro_start (Frs _ _ _ _ _) [22] [0, 1, 2, 3, 4, 5, 6, 7, 8, 9, 10, 11, 12, 13, 14, 15, 17, 18, 16, 19, 20, 21, 22] 23 (by kernel_rfl) (by rfl) (by simp only [pickR, List.getElem?_cons_succ, List.getElem?_cons_zero]; rfl) (by rfl) (H.drewN 1) (fun HS => ?_)
      have H1 : Fr _ _ _ _ _ _ := HS
      clear HS H
      have H := H1
      clear H1
      repeat (first
        | ((with_reducible refine rz_dst (N := 41) rfl ?_); refine ro_rowB (by kernel_rfl) (by kernel_rfl) (by rfl) (fun K hK => by go_simp; exact hK.out) (fun w1 hb => H.call hb) ?_; intro x41 w1 hx41 hb41 hB; (have HX := HF.alloc hx41 hb41 hB); clear hx41 hb41 hB HF H; (try simp only [Act.put, lsA, lsZ, lsS, Nat.reduceAdd]))
        | ((with_reducible refine rz_dst (N := 44) rfl ?_); refine ro_runB (by kernel_rfl) (by kernel_rfl) (by rfl) (fun K hK => by go_simp; exact hK.out) HX.drop.drop.drop ?_; have H := HX; clear HX; (try simp only [Act.put, lsA, lsZ, lsS, Nat.reduceAdd]))
        | ((with_reducible refine rz_store (ty := 30) rfl ?_); refine ro_setB H (u := .agg (List.toArray _)) rfl rfl (by kernel_rfl) (by kernel_rfl) (by rfl) (by rfl) (by rfl) (by repeat (first | exact At.head | apply At.tail)) (Nat.le_of_ble_eq_true rfl) (by simp only [Value.cells, List.take_succ_cons, List.take_zero, List.drop_succ_cons, List.drop_zero, List.cons_append, List.nil_append, List.size_toArray, List.length_cons, List.length_nil, Nat.reduceAdd, List.append_nil, List.drop_nil, List.take_nil, List.toList_toArray]; rfl) (by kernel_rfl) (by simp [Value.cells, Value.oneCell']) ?_; intro w1 H1; clear H; refine ⟨H1.drop.drop.drop, ?_⟩; have H := H1; clear H1; (try simp only [Act.put, lsA, lsZ, lsS, Nat.reduceAdd]))
        | ((with_reducible refine rz_load (ty := 30) rfl ?_); refine ro_sub H (m := 11) rfl (by kernel_rfl) (fun _ _ _ h => h) (by rfl) (by rfl) (by repeat (first | exact At.head | apply At.tail)) Tryz.underlying30 rfl (by kernel_rfl) (by simp only [List.toList_toArray, List.drop_succ_cons, List.drop_zero, List.take_succ_cons, List.take_zero]; rfl) (by rfl) ?_; (try simp only [Act.put, lsA, lsZ, lsS, Nat.reduceAdd]))
        | ((with_reducible refine rz_load (ty := 25) rfl ?_); refine ro_sub H (m := 2) rfl (by kernel_rfl) (fun _ _ _ h => h) (by rfl) (by rfl) (by repeat (first | exact At.head | apply At.tail)) Tryz.underlying25 rfl (by kernel_rfl) (by simp only [List.toList_toArray, List.drop_succ_cons, List.drop_zero, List.take_succ_cons, List.take_zero]; rfl) (by rfl) ?_; (try simp only [Act.put, lsA, lsZ, lsS, Nat.reduceAdd]))
        | ((with_reducible refine rz_load (ty := 3) rfl ?_); refine ro_get H rfl (by kernel_rfl) (fun _ _ _ h => h) (by rfl) (by rfl) (by repeat (first | exact At.head | apply At.tail)) Tryz.underlying3 rfl (by simp only [List.getElem?_toArray, List.getElem?_cons_succ, List.getElem?_cons_zero]; rfl) ?_; (try simp only [Act.put, lsA, lsZ, lsS, Nat.reduceAdd]))
        | ((with_reducible refine rz_load (ty := 4) rfl ?_); refine ro_get H rfl (by kernel_rfl) (fun _ _ _ h => h) (by rfl) (by rfl) (by repeat (first | exact At.head | apply At.tail)) Tryz.underlying4 rfl (by simp only [List.getElem?_toArray, List.getElem?_cons_succ, List.getElem?_cons_zero]; rfl) ?_; (try simp only [Act.put, lsA, lsZ, lsS, Nat.reduceAdd]))
        | ((with_reducible refine rz_load (ty := 28) rfl ?_); refine ro_sub H (m := 2) rfl (by kernel_rfl) (fun _ _ _ h => h) (by rfl) (by rfl) (by repeat (first | exact At.head | apply At.tail)) Tryz.underlying28 rfl (by kernel_rfl) (by simp only [List.toList_toArray, List.drop_succ_cons, List.drop_zero, List.take_succ_cons, List.take_zero]; rfl) (by rfl) ?_; (try simp only [Act.put, lsA, lsZ, lsS, Nat.reduceAdd]))
        | ((with_reducible refine rz_dst (N := 41) rfl ?_); refine ro_row H (by kernel_rfl) (by kernel_rfl) (by rfl) (fun K hK => by go_simp; exact hK.out) ?_; intro x41 w1 hx41 H1; replace H := H1; clear H1; (try simp only [Act.put, lsA, lsZ, lsS, Nat.reduceAdd]))
        | ((with_reducible refine rz_load (ty := 26) rfl ?_); refine ro_get H rfl (by kernel_rfl) (fun _ _ _ h => h) (by rfl) (by rfl) (by repeat (first | exact At.head | apply At.tail)) Tryz.underlying26 rfl (by simp only [List.getElem?_toArray, List.getElem?_cons_succ, List.getElem?_cons_zero]; rfl) ?_; (try simp only [Act.put, lsA, lsZ, lsS, Nat.reduceAdd]))
        | ((with_reducible refine rz_store (ty := 30) rfl ?_); refine ro_set H (u := .agg (List.toArray _)) rfl rfl (by kernel_rfl) (by kernel_rfl) (by rfl) (by rfl) (by rfl) (by repeat (first | exact At.head | apply At.tail)) (Nat.le_of_ble_eq_true rfl) (by simp only [Value.cells, List.take_succ_cons, List.take_zero, List.drop_succ_cons, List.drop_zero, List.cons_append, List.nil_append, List.size_toArray, List.length_cons, List.length_nil, Nat.reduceAdd, List.append_nil, List.drop_nil, List.take_nil, List.toList_toArray]; rfl) (by kernel_rfl) (by simp [Value.cells, Value.oneCell']) ?_; intro w1 H1; replace H := H1; clear H1; (try simp only [Act.put, lsA, lsZ, lsS, Nat.reduceAdd]))
        | ((with_reducible refine rz_store (ty := 47) rfl ?_); refine ro_set H (u := .agg (List.toArray _)) rfl rfl (by kernel_rfl) (by kernel_rfl) (by rfl) (by rfl) (by rfl) (by repeat (first | exact At.head | apply At.tail)) (Nat.le_of_ble_eq_true rfl) (by simp only [Value.cells, List.take_succ_cons, List.take_zero, List.drop_succ_cons, List.drop_zero, List.cons_append, List.nil_append, List.size_toArray, List.length_cons, List.length_nil, Nat.reduceAdd, List.append_nil, List.drop_nil, List.take_nil, List.toList_toArray]; rfl) (by kernel_rfl) (by simp [Value.cells, Value.oneCell']) ?_; intro w1 H1; replace H := H1; clear H1; (try simp only [Act.put, lsA, lsZ, lsS, Nat.reduceAdd]))
        | (refine ro_off (by kernel_rfl) (fun _ _ _ h => h) (by rfl) ?_; (try simp only [Act.put, lsA, lsZ, lsS, Nat.reduceAdd]))
        | (refine ro_pure (by kernel_rfl) (fun _ _ _ h => h) (by rfl) (fun W K hK => by go_simp; exact hK.out) ?_; (try simp only [Act.put, lsA, lsZ, lsS, Nat.reduceAdd])))
      refine ro_done (by kernel_rfl) ?_
      go_wp2
      refine bodyPost_ret (results_cc rfl _ _ g12 g13 30 47 _ _ (0, 0) (0, 0) _ _ rfl (H.of (by repeat (first | exact At.head | apply At.tail))) Tryz.underlying30 rfl (by kernel_rfl) rfl (H.of (by repeat (first | exact At.head | apply At.tail))) Tryz.underlying47 rfl (by kernel_rfl)) rfl ?_
      exact ⟨some ⟨x41, 0, none⟩, 0, by rw [HPU.out]; try rfl, by rw [HT0.out]; exact own_empty (H.of (by repeat (first | exact At.head | apply At.tail))) ((H.blk (x41, _) (by repeat (first | exact List.mem_cons_self | apply List.mem_cons_of_mem))).2.resolve_right id), H.below⟩
  | some ad =>
    rcases hcs with ⟨h1, h2⟩ | ⟨h1, h2⟩
    all_goals
      rw [h1] at HPU
      clear h1
      go_upto_region 5 with (first
        | (go_at_call 75; (with_reducible refine (KOf.out _ _ _ _).mono ?_); rintro e w' ⟨rfl, hb⟩; have H1 := H.call hb; clear hb; replace H := H1; clear H1)
        | (go_at_call 76; (with_reducible refine (KNum.out _).mono ?_); rintro e w' ⟨rfl, hb⟩; have H1 := H.call hb; clear hb; replace H := H1; clear H1)
        | (go_at_call 77; (with_reducible refine (KSt.out _ _ _).mono ?_); rintro e w' ⟨rfl, hb⟩; have H1 := H.call hb; clear hb; replace H := H1; clear H1)
        | ((with_reducible refine gate_dst (N := 6) rfl ?_); refine fr_box H rfl rfl rfl ?_; intro g6 w6 H1; replace H := H1; clear H1)
        | ((with_reducible refine gate_dst (N := 7) rfl ?_); refine fr_box H rfl rfl rfl ?_; intro g7 w7 H1; replace H := H1; clear H1)
        | ((with_reducible refine gate_dst (N := 11) rfl ?_); refine fr_box H rfl rfl rfl ?_; intro g11 w11 H1; replace H := H1; clear H1)
        | ((with_reducible refine gate_dst (N := 12) rfl ?_); refine fr_new H (N := 12) rfl rfl (cs := #[.int .i64 0, .int .i64 0, .int .i64 0, .bool false, .int .i64 0, .int .i64 0, .bool false, .slice none 0 0, .int .i64 0, .int .i64 0, .int .i64 0]) (t := 30) ?hr ?_; (case hr => first | (go_simp; done) | (go_simp; rfl)); intro g12 w12 H1; replace H := H1; clear H1)
        | ((with_reducible refine gate_dst (N := 13) rfl ?_); refine fr_new H (N := 13) rfl rfl (cs := #[.int .i64 0, .int .i64 0, .int .i64 0, .int .i64 0, .int .i64 0, .int .i64 0, .bool false, .bool false, .int .i64 0, .int .i64 0, .int .i64 0, .int .i64 0, .int .i64 0, .slice none 0 0]) (t := 47) ?hr ?_; (case hr => first | (go_simp; done) | (go_simp; rfl)); intro g13 w13 H1; replace H := H1; clear H1)
        | ((with_reducible refine gate_dst (N := 15) rfl ?_); refine fr_sub H (n := 12) rfl rfl rfl (by repeat (first | exact At.head | apply At.tail)) Tryz.underlying23 rfl (by kernel_rfl) (by simp only [List.toList_toArray, List.drop_succ_cons, List.drop_zero, List.take_succ_cons, List.take_zero]; rfl) (by rfl) ?_)
        | ((with_reducible refine gate_dst (N := 16) rfl ?_); refine fr_sub H (n := 11) rfl rfl rfl (by repeat (first | exact At.head | apply At.tail)) Tryz.underlying30 rfl (by kernel_rfl) (by simp only [List.toList_toArray, List.drop_succ_cons, List.drop_zero, List.take_succ_cons, List.take_zero]; rfl) (by rfl) ?_)
        | ((with_reducible refine gate_dst (N := 19) rfl ?_); refine fr_sub H (n := 12) rfl rfl rfl (by repeat (first | exact At.head | apply At.tail)) Tryz.underlying23 rfl (by kernel_rfl) (by simp only [List.toList_toArray, List.drop_succ_cons, List.drop_zero, List.take_succ_cons, List.take_zero]; rfl) (by rfl) ?_)
        | ((with_reducible refine gate_dst (N := 21) rfl ?_); refine fr_get H rfl rfl rfl (by repeat (first | exact At.head | apply At.tail)) Tryz.underlying3 rfl (by simp only [List.getElem?_toArray, List.getElem?_cons_succ, List.getElem?_cons_zero]; rfl) ?_)
        | ((with_reducible refine gate_dst (N := 23) rfl ?_); refine fr_sub H (n := 11) rfl rfl rfl (by repeat (first | exact At.head | apply At.tail)) Tryz.underlying30 rfl (by kernel_rfl) (by simp only [List.toList_toArray, List.drop_succ_cons, List.drop_zero, List.take_succ_cons, List.take_zero]; rfl) (by rfl) ?_)
        | ((with_reducible refine gate_store (t := 30) (p := 7) rfl ?_); refine fr_put H rfl rfl rfl rfl rfl (by repeat (first | exact At.head | apply At.tail)) (by rfl) (by kernel_rfl) (by simp [Value.oneCell']) ?_; intro w7_ H1; replace H := H1; clear H1)
        | fail)
      have HF := H.drewN 1
      have HS := H.drop.drop
      clear H
      have H := HS
      clear HS
      refine ro_start (Frs _ _ _ _ _) [22] [0, 1, 2, 3, 4, 5, 6, 7, 8, 9, 10, 11, 12, 13, 14, 15, 17, 18, 16, 19, 20, 21, 22] 23 (by kernel_rfl) (by rfl) (by simp only [pickR, List.getElem?_cons_succ, List.getElem?_cons_zero]; rfl) (by rfl) (H.drewN 1) (fun HS => ?_)
      have H1 : Fr _ _ _ _ _ _ := HS
      clear HS H
      have H := H1
      clear H1
      repeat (first
        | ((with_reducible refine rz_dst (N := 41) rfl ?_); refine ro_rowB (by kernel_rfl) (by kernel_rfl) (by rfl) (fun K hK => by go_simp; exact hK.out) (fun w1 hb => H.call hb) ?_; intro x41 w1 hx41 hb41 hB; (have HX := HF.alloc hx41 hb41 hB); clear hx41 hb41 hB HF H; (try simp only [Act.put, lsA, lsZ, lsS, Nat.reduceAdd]))
        | ((with_reducible refine rz_dst (N := 44) rfl ?_); (have hx41 := own_empty (W := _) (b := w.heap.size) (sz := 2) (HX.of At.head) ((HX.blk _ List.mem_cons_self).2.resolve_right id)); refine ro_appendB (by kernel_rfl) (by kernel_rfl) (by rfl) _ _ 26 rfl w.heap.size 58 i0 _ 2 16 Tryz.underlying26 hi0 hz0 hz1 hz2 rfl (by decide) (.slice (some ⟨x41, 0, none⟩) 0 0) 0 [] rfl hx41 ad n c (flL tab) rfl HFL.out (cellsL HX.now) (flL_one tab) (by have := HNB.out; unfold maxLen; omega) (by have := HNB.out; omega) HX.chg.size ?_; intro v2 w2 hown hgrow hnil hat; obtain ⟨g9, cap, rfl, hcap, hob⟩ := own_shape2 hown (fun e => by have := (hnil.1 e).1; cases this); rw [hob] at hat; rw [Nat.zero_add, List.nil_append] at hown; (have H1 := Fr.appendedRow HX.drop (fun k h => h) HR0.out hx41 (hne_rows HX.drop hx41 (by intro q hq; simp only [List.mem_cons, List.not_mem_nil, or_false] at hq; rcases hq with rfl | rfl | rfl | rfl | rfl <;> exact ⟨_, _, rfl, by decide⟩)) hgrow hown hat); clear hown hgrow hnil hat hob hcap hx41 HX; refine ⟨(H1.drop.drop).imp (fun _ h => h.1), ?_⟩; have H := H1; clear H1; (try simp only [Act.put, lsA, lsZ, lsS, Nat.reduceAdd]))
        | ((with_reducible refine rz_store (ty := 30) rfl ?_); refine ro_setB H (u := .agg (List.toArray _)) rfl rfl (by kernel_rfl) (by kernel_rfl) (by rfl) (by rfl) (by rfl) (by repeat (first | exact At.head | apply At.tail)) (Nat.le_of_ble_eq_true rfl) (by simp only [Value.cells, List.take_succ_cons, List.take_zero, List.drop_succ_cons, List.drop_zero, List.cons_append, List.nil_append, List.size_toArray, List.length_cons, List.length_nil, Nat.reduceAdd, List.append_nil, List.drop_nil, List.take_nil, List.toList_toArray]; rfl) (by kernel_rfl) (by simp [Value.cells, Value.oneCell']) ?_; intro w1 H1; clear H; refine ⟨(H1.drop.drop).imp (fun _ h => h.1), ?_⟩; have H := H1; clear H1; (try simp only [Act.put, lsA, lsZ, lsS, Nat.reduceAdd]))
        | ((with_reducible refine rz_load (ty := 30) rfl ?_); refine ro_sub H (m := 11) rfl (by kernel_rfl) (fun _ _ _ h => h) (by rfl) (by rfl) (by repeat (first | exact At.head | apply At.tail)) Tryz.underlying30 rfl (by kernel_rfl) (by simp only [List.toList_toArray, List.drop_succ_cons, List.drop_zero, List.take_succ_cons, List.take_zero]; rfl) (by rfl) ?_; (try simp only [Act.put, lsA, lsZ, lsS, Nat.reduceAdd]))
        | ((with_reducible refine rz_load (ty := 25) rfl ?_); refine ro_sub H (m := 2) rfl (by kernel_rfl) (fun _ _ _ h => h) (by rfl) (by rfl) (by repeat (first | exact At.head | apply At.tail)) Tryz.underlying25 rfl (by kernel_rfl) (by simp only [List.toList_toArray, List.drop_succ_cons, List.drop_zero, List.take_succ_cons, List.take_zero]; rfl) (by rfl) ?_; (try simp only [Act.put, lsA, lsZ, lsS, Nat.reduceAdd]))
        | ((with_reducible refine rz_load (ty := 3) rfl ?_); refine ro_get H rfl (by kernel_rfl) (fun _ _ _ h => h) (by rfl) (by rfl) (by repeat (first | exact At.head | apply At.tail)) Tryz.underlying3 rfl (by simp only [List.getElem?_toArray, List.getElem?_cons_succ, List.getElem?_cons_zero]; rfl) ?_; (try simp only [Act.put, lsA, lsZ, lsS, Nat.reduceAdd]))
        | ((with_reducible refine rz_load (ty := 4) rfl ?_); refine ro_get H rfl (by kernel_rfl) (fun _ _ _ h => h) (by rfl) (by rfl) (by repeat (first | exact At.head | apply At.tail)) Tryz.underlying4 rfl (by simp only [List.getElem?_toArray, List.getElem?_cons_succ, List.getElem?_cons_zero]; rfl) ?_; (try simp only [Act.put, lsA, lsZ, lsS, Nat.reduceAdd]))
        | ((with_reducible refine rz_load (ty := 28) rfl ?_); refine ro_sub H (m := 2) rfl (by kernel_rfl) (fun _ _ _ h => h) (by rfl) (by rfl) (by repeat (first | exact At.head | apply At.tail)) Tryz.underlying28 rfl (by kernel_rfl) (by simp only [List.toList_toArray, List.drop_succ_cons, List.drop_zero, List.take_succ_cons, List.take_zero]; rfl) (by rfl) ?_; (try simp only [Act.put, lsA, lsZ, lsS, Nat.reduceAdd]))
        | ((with_reducible refine rz_dst (N := 41) rfl ?_); refine ro_row H (by kernel_rfl) (by kernel_rfl) (by rfl) (fun K hK => by go_simp; exact hK.out) ?_; intro x41 w1 hx41 H1; replace H := H1; clear H1; (try simp only [Act.put, lsA, lsZ, lsS, Nat.reduceAdd]))
        | ((with_reducible refine rz_load (ty := 26) rfl ?_); refine ro_get H rfl (by kernel_rfl) (fun _ _ _ h => h) (by rfl) (by rfl) (by repeat (first | exact At.head | apply At.tail)) Tryz.underlying26 rfl (by simp only [List.getElem?_toArray, List.getElem?_cons_succ, List.getElem?_cons_zero]; rfl) ?_; (try simp only [Act.put, lsA, lsZ, lsS, Nat.reduceAdd]))
        | ((with_reducible refine rz_store (ty := 30) rfl ?_); refine ro_set H (u := .agg (List.toArray _)) rfl rfl (by kernel_rfl) (by kernel_rfl) (by rfl) (by rfl) (by rfl) (by repeat (first | exact At.head | apply At.tail)) (Nat.le_of_ble_eq_true rfl) (by simp only [Value.cells, List.take_succ_cons, List.take_zero, List.drop_succ_cons, List.drop_zero, List.cons_append, List.nil_append, List.size_toArray, List.length_cons, List.length_nil, Nat.reduceAdd, List.append_nil, List.drop_nil, List.take_nil, List.toList_toArray]; rfl) (by kernel_rfl) (by simp [Value.cells, Value.oneCell']) ?_; intro w1 H1; replace H := H1; clear H1; (try simp only [Act.put, lsA, lsZ, lsS, Nat.reduceAdd]))
        | ((with_reducible refine rz_store (ty := 47) rfl ?_); refine ro_set H (u := .agg (List.toArray _)) rfl rfl (by kernel_rfl) (by kernel_rfl) (by rfl) (by rfl) (by rfl) (by repeat (first | exact At.head | apply At.tail)) (Nat.le_of_ble_eq_true rfl) (by simp only [Value.cells, List.take_succ_cons, List.take_zero, List.drop_succ_cons, List.drop_zero, List.cons_append, List.nil_append, List.size_toArray, List.length_cons, List.length_nil, Nat.reduceAdd, List.append_nil, List.drop_nil, List.take_nil, List.toList_toArray]; rfl) (by kernel_rfl) (by simp [Value.cells, Value.oneCell']) ?_; intro w1 H1; replace H := H1; clear H1; (try simp only [Act.put, lsA, lsZ, lsS, Nat.reduceAdd]))
        | (refine ro_off (by kernel_rfl) (fun _ _ _ h => h) (by rfl) ?_; (try simp only [Act.put, lsA, lsZ, lsS, Nat.reduceAdd]))
        | (refine ro_pure (by kernel_rfl) (fun _ _ _ h => h) (by rfl) (fun W K hK => by go_simp; exact hK.out) ?_; (try simp only [Act.put, lsA, lsZ, lsS, Nat.reduceAdd])))
      refine ro_done (by kernel_rfl) ?_
      go_wp2
      refine bodyPost_ret (results_cc rfl _ _ g12 g13 30 47 _ _ (0, 0) (0, 0) _ _ rfl (H.of (by repeat (first | exact At.head | apply At.tail))) Tryz.underlying30 rfl (by kernel_rfl) rfl (H.of (by repeat (first | exact At.head | apply At.tail))) Tryz.underlying47 rfl (by kernel_rfl)) rfl ?_
      exact ⟨some ⟨g9, 0, none⟩, cap, by rw [HPU.out]; try rfl, H.now.2, H.below⟩
end Go.Proofs.YtbmfgcekglgliaaGreat.G

namespace Go.Proofs.YtbmfgcekglgliaaGreat.G
open Go.RowKit Go.Proofs.YtbmfgcekglgliaaGreatW.PrintWords Go.Proofs.YtbmfgcekglgliaaGreatW.PrintLast Go.Proofs.YtbmfgcekglgliaaGreatW.PrintMore Go.Proofs.YtbmfgcekglgliaaGreatPl Go.Proofs.YtbmfgcekglgliaaGreatEm Go.Proofs.YtbmfgcekglgliaaGreatKr Go.Proofs.YtbmfgcekglgliaaGreatRz Go.Proofs.YtbmfgcekglgliaaGreat.X
set_option linter.unusedVariables false
set_option linter.unusedSimpArgs false
theorem eq_sorted : ∀ (a b : List Hd), a.Pairwise (fun x y => x.frm < y.frm) → b.Pairwise (fun x y => x.frm < y.frm) → (∀ x, x ∈ a ↔ x ∈ b) → a = b
  | [], [], _, _, _ => rfl
  | [], y :: b, _, _, h => by have := (h y).2 List.mem_cons_self; cases this
  | x :: a, [], _, _, h => by have := (h x).1 List.mem_cons_self; cases this
  | x :: a, y :: b, h1, h2, h => by
    have h3 := List.pairwise_cons.1 h1
    have h4 := List.pairwise_cons.1 h2
    have e : x = y := by
      rcases List.mem_cons.1 ((h x).1 List.mem_cons_self) with q | q
      · exact q
      · rcases List.mem_cons.1 ((h y).2 List.mem_cons_self) with r | r
        · exact r.symm
        · have := h4.1 x q
          have := h3.1 y r
          omega
    subst e
    rw [eq_sorted a b h3.2 h4.2 (fun z => ⟨fun hz => ?_, fun hz => ?_⟩)]
    · rcases List.mem_cons.1 ((h z).1 (List.mem_cons_of_mem _ hz)) with q | q
      · have := h3.1 z hz
        rw [q] at this
        omega
      · exact q
    · rcases List.mem_cons.1 ((h z).2 (List.mem_cons_of_mem _ hz)) with q | q
      · have := h4.1 z hz
        rw [q] at this
        omega
      · exact q
theorem isF_spec {k : Nat} {h : Hd} : isF k h = true ↔ h.kind = 1 ∧ h.frm = (k : Int) := by unfold isF; simp
theorem pick_frm {me : Int} {l : List Hd} {k : Nat} {x : Hd} (h : pickT me l k = some x) : x.kind = 1 ∧ x.frm = (k : Int) ∧ (k : Int) ≠ me := by
  unfold pickT at h
  split at h
  · rename_i g
    have := isF_spec.1 (List.find?_some h)
    exact ⟨this.1, this.2, by simpa using g⟩
  · cases h
theorem pick_snoc (me : Int) (l : List Hd) (x : Hd) (k : Nat) : pickT me (l ++ [x]) k = (pickT me l k).or (if (((k : Int) != me) && isF k x) = true then some x else none) := by
  unfold pickT
  cases h : ((k : Int) != me)
  · rfl
  · rw [if_pos rfl, if_pos rfl, List.find?_append, Bool.true_and]
    cases h2 : isF k x
    · rw [List.find?_cons_of_neg (by rw [h2]; simp)]; rfl
    · rw [List.find?_cons_of_pos h2]; rfl
theorem upT_lt {N : Int} {k : Nat} : k < upT N ↔ (k : Int) < (if 16 < N then 16 else N) := by
  unfold upT
  by_cases h : N < 16
  · rw [if_pos h, if_neg (by omega)]; omega
  · rw [if_neg h]
    by_cases h2 : 16 < N
    · rw [if_pos h2]; omega
    · rw [if_neg h2]; omega
theorem firsts_mem (N me : Int) (l : List Hd) : ∀ n, n ≤ l.length → ∀ x, x ∈ unB (firsts N me (l.take n)) ↔ ∃ k, k < upT N ∧ pickT me (l.take n) k = some x
  | 0, _, x => by
    constructor
    · intro h; simp [firsts, unB] at h
    · rintro ⟨k, _, h⟩; unfold pickT at h; split at h <;> simp at h
  | n + 1, hn, x => by
    have IH := firsts_mem N me l n (by omega)
    rw [List.take_succ_eq_append_getElem (show n < l.length by omega)]
    generalize l.take n = t at IH
    generalize l[n] = y
    rw [firsts_snoc]
    generalize firsts N me t = out at IH
    have old : ∀ k z, pickT me t k = some z → pickT me (t ++ [y]) k = some z := fun k z h => by rw [pick_snoc, h]; rfl
    have new : ∀ k z, pickT me (t ++ [y]) k = some z → pickT me t k = some z ∨ (pickT me t k = none ∧ (((k : Int) != me) && isF k y) = true ∧ z = y) := fun k z h => by
      rw [pick_snoc] at h
      cases hp : pickT me t k with
      | some z' => rw [hp] at h; exact .inl h
      | none =>
        rw [hp, Option.none_or] at h
        split at h
        · rename_i g
          exact .inr ⟨rfl, g, by injection h with h; exact h.symm⟩
        · cases h
    unfold addT
    split
    · rename_i g
      have hb := fitH_bd g
      have g' := g
      unfold fitH at g'
      simp only [Bool.and_eq_true, decide_eq_true_eq, Bool.not_eq_true', beq_iff_eq, bne_iff_ne, ne_eq] at g'
      obtain ⟨⟨⟨⟨gk, g0⟩, gN⟩, gm⟩, ga⟩ := g'
      obtain ⟨k0, hk0⟩ := Int.eq_ofNat_of_zero_le g0
      have hk1 : k0 < upT N := upT_lt.2 (by rw [← hk0]; exact gN)
      have hno : pickT me t k0 = none := by
        cases hp : pickT me t k0 with
        | none => rfl
        | some z =>
          have h1 := (IH z).2 ⟨k0, hk1, hp⟩
          have h2 := (pick_frm hp).2.1
          rw [List.any_eq_false] at ga
          exact absurd (show (z.frm == y.frm) = true by rw [h2, hk0]; simp) (ga z h1)
      have hin : (((k0 : Int) != me) && isF k0 y) = true := by
        rw [Bool.and_eq_true]
        exact ⟨by rw [← hk0]; simpa using gm, isF_spec.2 ⟨gk, hk0⟩⟩
      have e1 : unB (out ++ [⟨y, hb.1, hb.2⟩]) = unB out ++ [y] := by unfold unB; rw [List.map_append]; rfl
      rw [e1, List.mem_append, List.mem_singleton, IH x]
      constructor
      · rintro (⟨k, h1, h2⟩ | rfl)
        · exact ⟨k, h1, old k x h2⟩
        · exact ⟨k0, hk1, by rw [pick_snoc, hno, Option.none_or, if_pos hin]⟩
      · rintro ⟨k, h1, h2⟩
        rcases new k x h2 with h3 | ⟨_, _, h4⟩
        · exact .inl ⟨k, h1, h3⟩
        · exact .inr h4
    · rename_i g
      rw [IH x]
      constructor
      · rintro ⟨k, h1, h2⟩; exact ⟨k, h1, old k x h2⟩
      · rintro ⟨k, h1, h2⟩
        rcases new k x h2 with h3 | ⟨h3, h4, h5⟩
        · exact ⟨k, h1, h3⟩
        · exfalso
          apply g
          rw [Bool.and_eq_true] at h4
          obtain ⟨q1, q2⟩ := isF_spec.1 h4.2
          have q3 : (k : Int) ≠ me := by simpa using h4.1
          unfold fitH
          simp only [Bool.and_eq_true, decide_eq_true_eq, Bool.not_eq_true', beq_iff_eq, bne_iff_ne, ne_eq]
          refine ⟨⟨⟨⟨q1, by omega⟩, by rw [q2]; exact upT_lt.1 h1⟩, by rw [q2]; exact q3⟩, ?_⟩
          rw [List.any_eq_false]
          intro z hz hzf
          obtain ⟨k', r1, r2⟩ := (IH z).1 hz
          have r3 := (pick_frm r2).2.1
          have r4 : z.frm = y.frm := by simpa using hzf
          have r5 : k' = k := by omega
          rw [r5, h3] at r2
          cases r2
theorem toldR_mem (me : Int) (l : List Hd) (x : Hd) : ∀ m, x ∈ toldR me l m ↔ ∃ k, k < m ∧ pickT me l k = some x
  | 0 => by constructor
            · intro h; cases h
            · rintro ⟨k, h, _⟩; omega
  | m + 1 => by
    show x ∈ toldR me l m ++ (pickT me l m).toList ↔ _
    rw [List.mem_append, toldR_mem me l x m]
    constructor
    · rintro (⟨k, h1, h2⟩ | h)
      · exact ⟨k, by omega, h2⟩
      · exact ⟨m, by omega, by simpa using h⟩
    · rintro ⟨k, h1, h2⟩
      by_cases h : k < m
      · exact .inl ⟨k, h, h2⟩
      · have : k = m := by omega
        subst this
        exact .inr (by simpa using h2)
theorem toldR_sorted (me : Int) (l : List Hd) : ∀ m, (toldR me l m).Pairwise (fun x y => x.frm < y.frm)
  | 0 => List.Pairwise.nil
  | m + 1 => by
    show (toldR me l m ++ (pickT me l m).toList).Pairwise _
    rw [List.pairwise_append]
    refine ⟨toldR_sorted me l m, by cases pickT me l m <;> simp, fun a ha b hb => ?_⟩
    obtain ⟨k, h1, h2⟩ := (toldR_mem me l a m).1 ha
    have h3 := (pick_frm h2).2.1
    have h4 := (pick_frm (show pickT me l m = some b by simpa using hb)).2.1
    omega
theorem toldR_told (N me : Int) (l : List Hd) : toldR me l (upT N) = unB (told N me l) := by
  have hs := sortB_spec (firsts N me l)
  have hn := firsts_nodup N me l
  refine eq_sorted _ _ (toldR_sorted me l _) ?_ (fun x => ?_)
  · have h1 : (unB (told N me l)).Pairwise (fun x y => x.frm ≤ y.frm) := by
      unfold told unB
      rw [List.pairwise_map]
      exact hs.2
    have h2 : ((unB (told N me l)).map (·.frm)).Nodup := by
      have : ((unB (told N me l)).map (·.frm)).Perm ((unB (firsts N me l)).map (·.frm)) := by
        unfold told unB
        exact (hs.1.map _).map _
      exact this.nodup_iff.2 hn
    have h3 : (unB (told N me l)).Pairwise (fun x y => x.frm ≠ y.frm) := List.pairwise_map.1 h2
    exact (h1.and h3).imp (fun h => by have := h.1; have := h.2; omega)
  · rw [toldR_mem]
    have h1 := firsts_mem N me l l.length (Nat.le_refl _) x
    rw [List.take_length] at h1
    rw [← h1]
    unfold told unB
    exact ((hs.1.map _).mem_iff).symm
end Go.Proofs.YtbmfgcekglgliaaGreat.G

namespace Go.Proofs.YtbmfgcekglgliaaGreat.XR
open Go.RowKit Go.Proofs.YtbmfgcekglgliaaGreatW.PrintWords Go.Proofs.YtbmfgcekglgliaaGreatW.PrintLast Go.Proofs.YtbmfgcekglgliaaGreatW.PrintMore
attribute [local go_sem] max2_int min2_int max_two min_two max_three min_three max_four min_four   -- for this text's walks alone
set_option linter.unusedVariables false
set_option linter.unusedSimpArgs false
def errW : Option Int → Value
  | none => .nilIface
  | some c => .iface 0 (.int .i64 c)
theorem errW_none : errW none = .nilIface := rfl
theorem errW_some (c : Int) : errW (some c) = .iface 0 (.int .i64 c) := rfl
theorem info3 : (Tryz.prog.info? 3).map (fun i => (i.zero, i.size, i.bytes)) = some (some (.int .i64 0), 1, 8) := by kernel_rfl
structure S25 where
  f0 : Int
  f1 : Int
def z25 : S25 := ⟨(0 : Int), (0 : Int)⟩
def k25 : Kd S25 := Kd.iso (Kd.pair (Kd.int .i64) (Kd.int .i64)) (fun x : S25 => (x.f0, x.f1))
theorem k25_heap : Kd.Heap k25 := Kd.heap_iso _ (Kd.heap_pair (Kd.heap_int .i64) (Kd.heap_int .i64))
theorem k25_open {w : World} {x : S25} {cs : List Value} (h : k25.K w x cs) : cs = [.int .i64 x.f0, .int .i64 x.f1] := by
  obtain ⟨_, _, rfl, rfl, rfl⟩ := h
  exact rfl
theorem k25_mk (w : World) (x : S25)  : k25.K w x [.int .i64 x.f0, .int .i64 x.f1] := ⟨[.int .i64 x.f0], [.int .i64 x.f1], rfl, rfl, rfl⟩
def rd_T25 (xs : List S25) (i : Int) : S25 := xs.getD i.toNat z25
theorem at_T25 {w : World} {A : Option Addr} {n : Nat} {xs : List S25} (h : Kd.C k25 w A n xs) (i : Int) (h0 : 0 ≤ i) (h1 : i < n) : ∃ ad , A = some ad ∧ w.cell? (ad.add (i.toNat * 2)) = some (.int .i64 (rd_T25 xs i).f0) ∧ w.cell? ⟨(ad.add (i.toNat * 2)).block, (ad.add (i.toNat * 2)).off + 1, none⟩ = some (.int .i64 (rd_T25 xs i).f1) := by
  obtain ⟨ad, c, e, _, hK, hc0⟩ := Kd.C_get h z25 i h0 h1
  have hc : ∀ j u, c[j]? = some u → w.cell? (ad.add (i.toNat * 2 + j)) = some u := hc0
  obtain rfl := k25_open hK
  exact ⟨ad, e, hc 0 _ rfl, by rw [← add_field _ _ 1 (by omega)]; exact hc 1 _ rfl⟩
end Go.Proofs.YtbmfgcekglgliaaGreat.XR
