/- Texts Kw, Rz, Ay, WTab, WFour, WFootNe, WAt, WEqStruct, WRepsOne, WInv, WInvWords, X0, Pl, Ga, in one file, without what is not needed here. -/
import Derived.Test.YtdaohldmojpihaaGreatDoorProg
import Derived.Laws.StructEq
import Derived.Below
import Derived.Deep.Draws
import Derived.Deep.AppendLies
import Derived.Maps.AppendAt
import Derived.OwnWalk
import Derived.Laws.BytesArg
import Derived.Laws.MakeOwn
import Derived.Laws.OwnMore
import Derived.Deep.OwnRows
import Derived.Tactics
import Derived.Lib.ConvBytes
import Derived.Laws.Slices
import Derived.WalkKit
import Derived.KernelRfl
import Derived.RowKit3
import Derived.Deep.LoopGhost
import Derived.Deep.QuietTactic
import Derived.BigQuiet
import Derived.WideLaws
import Derived.Deep.DeepCutAuto
import Derived.Deep.CutBlock
import Derived.Deep.RegionHeld3
import Derived.Laws.Rows
import Derived.Lib.AppendStr
import Derived.ArgAppend
import Derived.Laws.IdiomCopy
import Derived.OrdersHeld
import Derived.Laws.BitsLemmas
import Derived.RowKit
import Derived.Test.YtdaohldmojpihaaGreatDoorZNodeForgets1
namespace Go.Proofs.YtdaohldmojpihaaGreatDoorKr
open Go.RowKit Go.Proofs.YtdaohldmojpihaaGreatDoorW.PrintWords Go.Proofs.YtdaohldmojpihaaGreatDoorW.PrintLast Go.Proofs.YtdaohldmojpihaaGreatDoorW.PrintMore
open Go.Proofs.YtdaohldmojpihaaGreatDoorEm (Fr Chg At Of Tr Keep)
set_option linter.unusedVariables false
theorem upC_chg {D : Nat → Prop} {W0 : World} : UpC (Chg D W0) (fun k => D k ∨ W0.heap.size ≤ k) where
  up := fun W W' h hb => h.trans (Chg.of_below hb)
  put := fun W g j us cur t h hv hg => by
    obtain ⟨s1, s2, s3, s4⟩ := setCells_same g us j W
    refine ⟨s1.trans h.os, s2.trans h.tape, s3.trans h.output, by rw [s4]; exact h.size, fun k hk hn => ?_⟩
    refine (setCells_far us j k (fun e => ?_)).trans (h.block k hk hn)
    subst e
    rcases hv with hv | hv
    · exact hn hv
    · omega
  fresh := fun W h => .inr h.size
structure Rd (bl : List (Nat × Obj)) (p : World → Prop) (W : World) : Prop where
  blk : ∀ x, x ∈ bl → W.heap[x.1]? = some x.2
  now : p W
theorem Rd.at {bl bl' : List (Nat × Obj)} {p : World → Prop} {W : World} {g : Nat} {o n : Obj} (h : Rd bl p W) (ha : At bl g o n bl') : W.heap[g]? = some o := h.blk _ ha.mem
inductive Take : List (Nat × Obj) → Nat → Obj → List (Nat × Obj) → Prop
  | head {g : Nat} {o : Obj} {bl : List (Nat × Obj)} : Take ((g, o) :: bl) g o bl
  | tail {g : Nat} {o : Obj} {x : Nat × Obj} {bl bl' : List (Nat × Obj)} (h : Take bl g o bl') : Take (x :: bl) g o (x :: bl')
theorem Take.perm {bl bl' : List (Nat × Obj)} {g : Nat} {o : Obj} (h : Take bl g o bl') : bl.Perm ((g, o) :: bl') := by
  induction h with
  | head => exact List.Perm.refl _
  | tail h ih => exact (ih.cons _).trans (List.Perm.swap _ _ _)
def cv (e : Nat × Nat × TypeId × Array Value) : Nat × Obj := (e.2.1, .cells e.2.2.2 e.2.2.1 (0, 0))
def vars (n : Nat) (D : List (Nat × TypeId × Array Value)) : List (Nat × Nat × TypeId × Array Value) := D.map fun d => (n, d.1, d.2.1, d.2.2)
def inD (D : List (Nat × TypeId × Array Value)) (k : Nat) : Prop := ∃ d, d ∈ D ∧ d.1 = k
section
variable {M A : Nat → Prop} {w W : World} {bl bl0 : List (Nat × Obj)} {p : World → Prop} {D : List (Nat × TypeId × Array Value)}
theorem nd_perm {l l' : List (Nat × Obj)} (h : l.Perm l') (g : l.Pairwise (fun x y => x.1 ≠ y.1)) : l'.Pairwise (fun x y => x.1 ≠ y.1) := (h.pairwise_iff (fun h e => h e.symm)).1 g
theorem Fr.behind (H : Fr M A w W bl p) (hp : bl.Perm (D.map (fun d => (d.1, Obj.cells d.2.2 d.2.1 (0, 0))) ++ bl0)) {F : Facts} {w' : World} (hc : Chg (inD D) W w') (hF : holds F w') (hs : Sep F) (hv : InV (fun k => inD D k ∨ W.heap.size ≤ k) F) (hD : ∀ d, d ∈ D → ∃ e, e ∈ F.var ∧ e.2.1 = d.1) :
    Fr M A w w' (F.var.map cv ++ bl0) p := by
  have nd := nd_perm hp H.nd
  have hDbl : ∀ k, inD D k → Of bl k := fun k ⟨d, hd, e⟩ => ⟨_, hp.mem_iff.2 (List.mem_append_left _ (List.mem_map.2 ⟨d, hd, rfl⟩)), e⟩
  have h0 : ∀ x, x ∈ bl0 → ¬ inD D x.1 := fun x hx ⟨d, hd, e⟩ => (List.pairwise_append.1 nd).2.2 _ (List.mem_map.2 ⟨d, hd, rfl⟩) x hx e
  have h0m : ∀ x, x ∈ bl0 → x ∈ bl := fun x hx => hp.mem_iff.2 (List.mem_append_right _ hx)
  have h0l : ∀ x, x ∈ bl0 → x.1 < W.heap.size := fun x hx => obj_lt (H.blk x (h0m x hx)).1
  have hM : ∀ k, inD D k → w.heap.size ≤ k ∨ M k := fun k hk => by
    obtain ⟨x, hx, e⟩ := hDbl k hk
    rw [← e]; exact (H.blk x hx).2
  refine ⟨H.av, ⟨hc.os.trans H.chg.os, hc.tape.trans H.chg.tape, hc.output.trans H.chg.output, Nat.le_trans H.chg.size hc.size, fun k hk hn => ?_⟩, fun x hx => ?_, ?_, ?_⟩
  · refine (hc.block k (Nat.lt_of_lt_of_le hk H.chg.size) (fun hd => ?_)).trans (H.chg.block k hk hn)
    rcases hM k hd with q | q
    · omega
    · exact hn q
  · rcases List.mem_append.1 hx with hx | hx
    · obtain ⟨e, he, rfl⟩ := List.mem_map.1 hx
      refine ⟨hF.2 e he, ?_⟩
      rcases hv e he with q | q
      · exact hM _ q
      · exact .inl (Nat.le_trans H.chg.size q)
    · exact ⟨(hc.block _ (h0l x hx) (h0 x hx)).trans (H.blk x (h0m x hx)).1, (H.blk x (h0m x hx)).2⟩
  · refine List.pairwise_append.2 ⟨?_, (List.pairwise_append.1 nd).2.1, ?_⟩
    · rw [List.pairwise_map]
      have := hs.2
      rw [List.Nodup, List.pairwise_map] at this
      exact this.imp (fun h e => h e)
    · intro x hx y hy e
      obtain ⟨z, hz, rfl⟩ := List.mem_map.1 hx
      have e' : z.2.1 = y.1 := e
      rcases hv z hz with q | q
      · exact h0 y hy (e' ▸ q)
      · have := h0l y hy
        omega
  · intro W'' hW
    refine H.tr W'' (fun k hn hk => ?_)
    have hnd : ¬ inD D k := fun hd => hn (.inr (hDbl k hd))
    refine (hW k (fun q => ?_) (Nat.lt_of_lt_of_le hk hc.size)).trans (hc.block k hk hnd)
    rcases q with q | ⟨x, hx, e⟩
    · exact hn (.inl q)
    · rcases List.mem_append.1 hx with hx | hx
      · obtain ⟨z, hz, rfl⟩ := List.mem_map.1 hx
        have e' : z.2.1 = k := e
        rcases hv z hz with q | q
        · exact hnd (e' ▸ q)
        · omega
      · exact hn (.inr ⟨x, h0m x hx, e⟩)
theorem Fr.rd (H : Fr M A w W bl p) (hp : bl.Perm (D.map (fun d => (d.1, Obj.cells d.2.2 d.2.1 (0, 0))) ++ bl0)) : ∀ w', Chg (inD D) W w' → Rd bl0 p w' := by
  have nd := nd_perm hp H.nd
  have hDbl : ∀ k, inD D k → Of bl k := fun k ⟨d, hd, e⟩ => ⟨_, hp.mem_iff.2 (List.mem_append_left _ (List.mem_map.2 ⟨d, hd, rfl⟩)), e⟩
  intro w' hc
  refine ⟨fun x hx => ?_, H.tr w' (fun k hn hk => hc.block k hk (fun hd => hn (.inr (hDbl k hd))))⟩
  have hm : x ∈ bl := hp.mem_iff.2 (List.mem_append_right _ hx)
  exact (hc.block _ (obj_lt (H.blk x hm).1) (fun ⟨d, hd, e⟩ => (List.pairwise_append.1 nd).2.2 _ (List.mem_map.2 ⟨d, hd, rfl⟩) x hx e)).trans (H.blk x hm).1
theorem var_kept {P : Program} {ops : Array Oper} {C : World → Prop} {Q : Act → Facts → Prop} (b : Nat) : ∀ (l : List Oper) (k : Nat) (a : Act) (F : Facts), (∃ e, e ∈ F.var ∧ e.2.1 = b) → wpO P ops C Q k l a F → wpO P ops C (fun a F => (∃ e, e ∈ F.var ∧ e.2.1 = b) ∧ Q a F) k l a F
  | [], _, _, _, h, hh => ⟨h, hh⟩
  | o :: l, k, a, F, h, ⟨r, h1, h2⟩ => ⟨r, h1, fun x hx => var_kept b l (k + 1) _ _ (by
      obtain ⟨e, he, q⟩ := h
      cases r with
      | val v => exact ⟨e, he, q⟩
      | new s ob => exact ⟨e, he, q⟩
      | newv t cs => exact ⟨e, List.mem_cons_of_mem _ he, q⟩
      | put g j us =>
        obtain ⟨e1, q1, _, q2, _⟩ := mem_upd (g := g) (j := j) (us := us) he
        exact ⟨e1, q1, q2.trans q⟩) (h2 x hx)⟩
theorem vars_kept {P : Program} {ops : Array Oper} {C : World → Prop} : ∀ (D : List (Nat × TypeId × Array Value)) {Q : Act → Facts → Prop} {l : List Oper} {k : Nat} {a : Act} {F : Facts}, (∀ d, d ∈ D → ∃ e, e ∈ F.var ∧ e.2.1 = d.1) → wpO P ops C Q k l a F → wpO P ops C (fun a F => (∀ d, d ∈ D → ∃ e, e ∈ F.var ∧ e.2.1 = d.1) ∧ Q a F) k l a F
  | [], Q, l, k, a, F, _, hh => wpO_imp (fun a F h => ⟨(fun d hd => by cases hd), h⟩) l k a F hh
  | d :: D, Q, l, k, a, F, h, hh => wpO_imp (fun a F h => ⟨fun d' hd' => by
      rcases List.mem_cons.1 hd' with rfl | hd'
      · exact h.1
      · exact h.2.1 d' hd', h.2.2⟩) l k a F (var_kept d.1 l k a F (h d List.mem_cons_self) (vars_kept D (fun d' hd' => h d' (List.mem_cons_of_mem _ hd')) hh))
where
  wpO_imp {P : Program} {ops : Array Oper} {C : World → Prop} {Q Q' : Act → Facts → Prop} (h : ∀ a F, Q a F → Q' a F) : ∀ (l : List Oper) (k : Nat) (a : Act) (F : Facts), wpO P ops C Q k l a F → wpO P ops C Q' k l a F
    | [], _, _, _, hh => h _ _ hh
    | o :: l, k, a, F, ⟨r, h1, h2⟩ => ⟨r, h1, fun x hx => wpO_imp h l (k + 1) _ _ (h2 x hx)⟩
theorem ko_region {P : Program} {id : Nat} {Q' : Exit → Act → World → Prop} {a : Act} {l : List Oper} (D : List (Nat × TypeId × Array Value)) (H : Fr M A w W bl p) (hp : bl.Perm (D.map (fun d => (d.1, Obj.cells d.2.2 d.2.1 (0, 0))) ++ bl0)) (hm : P.follows .mixedOrders = true) (hB : Region.lexB .any l.toArray = true)
    (h : (∀ w', Chg (inD D) W w' → Rd bl0 p w') → wpO P l.toArray (Chg (inD D) W) (fun a' F => ∀ w', Fr M A w w' (F.var.map cv ++ bl0) p → Q' .normal a' w') 0 l a ⟨[], vars l.length D, []⟩) : (Code.region id l.toArray true).wp P Q' a W := by
  have nd := nd_perm hp H.nd
  have hF : holds ⟨[], vars l.length D, []⟩ W := ⟨(fun p hp => by cases hp), fun e he => by
    obtain ⟨d, hd, rfl⟩ := List.mem_map.1 he
    exact (H.blk _ (hp.mem_iff.2 (List.mem_append_left _ (List.mem_map.2 ⟨d, hd, rfl⟩)))).1⟩
  have hs : Sep ⟨[], vars l.length D, []⟩ := ⟨(fun p hp => by cases hp), by
    have h1 := (List.pairwise_append.1 nd).1
    rw [List.pairwise_map] at h1
    simp only [vars, List.map_map, List.Nodup, List.pairwise_map]
    exact h1⟩
  refine wp_region_O (upC_chg (D := inD D) (W0 := W)) ⟨[], vars l.length D, []⟩ hm hB (Chg.refl _ _) hF hs (fun e he => by
    obtain ⟨d, hd, rfl⟩ := List.mem_map.1 he
    exact .inl ⟨d, hd, rfl⟩) ?_
  exact vars_kept.wpO_imp (fun a F h w' hc hF hs hv => h.2 w' (Fr.behind H hp hc hF hs hv h.1)) _ _ _ _ (vars_kept D (fun d hd => ⟨_, List.mem_map.2 ⟨d, hd, rfl⟩, rfl⟩) (h (Fr.rd H hp)))
theorem ko_region0 {P : Program} {id : Nat} {Q' : Exit → Act → World → Prop} {a : Act} {l : List Oper} (H : Fr M A w W bl p) (hm : P.follows .mixedOrders = true) (hB : Region.lexB .any l.toArray = true)
    (h : (∀ w', Chg (inD []) W w' → Rd bl p w') → wpO P l.toArray (Chg (inD []) W) (fun a' F => ∀ w', Fr M A w w' (F.var.map cv ++ bl) p → Q' .normal a' w') 0 l a ⟨[], [], []⟩) : (Code.region id l.toArray true).wp P Q' a W :=
  ko_region [] H (List.Perm.refl _) hm hB h
theorem ko_region1 {P : Program} {id : Nat} {Q' : Exit → Act → World → Prop} {a : Act} {l : List Oper} {g n : Nat} {t : TypeId} {cs : Array Value} (H : Fr M A w W bl p) (hn : l.length = n) (h1 : Take bl g (.cells cs t (0, 0)) bl0) (hm : P.follows .mixedOrders = true) (hB : Region.lexB .any l.toArray = true)
    (h : (∀ w', Chg (inD [(g, t, cs)]) W w' → Rd bl0 p w') → wpO P l.toArray (Chg (inD [(g, t, cs)]) W) (fun a' F => ∀ w', Fr M A w w' (F.var.map cv ++ bl0) p → Q' .normal a' w') 0 l a ⟨[], [(n, g, t, cs)], []⟩) : (Code.region id l.toArray true).wp P Q' a W := by
  subst hn
  exact ko_region [(g, t, cs)] H h1.perm hm hB h
end
section
variable {P : Program} {ops : Array Oper} {C : World → Prop} {Q : Act → Facts → Prop} {k : Nat} {o : Oper} {rest : List Oper} {a : Act} {F : Facts} {v : Value} {bl bl' : List (Nat × Obj)} {p : World → Prop}
theorem kg_load {ty : TypeId} {x : Operand} (_ho : o.op = .load ty x) (h : wpO P ops C Q k (o :: rest) a F) : wpO P ops C Q k (o :: rest) a F := h
theorem kg_store {ty : TypeId} {x v : Operand} (_ho : o.op = .store ty x v) (h : wpO P ops C Q k (o :: rest) a F) : wpO P ops C Q k (o :: rest) a F := h
theorem kg_dst {N : Tmp} (_hd : o.dst = some N) (h : wpO P ops C Q k (o :: rest) a F) : wpO P ops C Q k (o :: rest) a F := h
theorem kg_call {f : FuncId} {as_ : Array Operand} {ts : Array TypeId} (_ho : o.op = .call { callee := .value (.func f), args := as_, argTypes := ts }) (h : wpO P ops C Q k (o :: rest) a F) : wpO P ops C Q k (o :: rest) a F := h
theorem ko_off (hw : Region.wanted o (yielded ops a.tmps) = false) (h : wpO P ops C Q (k + 1) rest (a.put o.dst undef) F) : wpO P ops C Q k (o :: rest) a F := ⟨.val undef, .inr ⟨hw, rfl⟩, fun _ _ => h⟩
theorem ko_take (hk : kindO o = 0) (hw : Region.wanted o (yielded ops a.tmps) = true) (hy : ∀ W, C W → (execOp a.eval o).run P W = .ok (.value v) W) (h : wpO P ops C Q (k + 1) rest (a.put o.dst v) F) : wpO P ops C Q k (o :: rest) a F :=
  ⟨.val v, .inl ⟨hw, trivial, fun W hC _ => ⟨by rw [hk]; decide, by rw [hy W hC]; exact ⟨rfl, rfl⟩⟩⟩, fun _ _ => h⟩
theorem ko_pure (hk : kindO o = 0) (hw : Region.wanted o (yielded ops a.tmps) = true) (hy : ∀ W (K : Result Next → Prop), Hid (K (.ok (.value v) W)) → K ((execOp a.eval o).run P W)) (h : wpO P ops C Q (k + 1) rest (a.put o.dst v) F) : wpO P ops C Q k (o :: rest) a F :=
  ko_take hk hw (fun W _ => hy W (fun r => r = .ok (.value v) W) (Lib.hid rfl)) h
theorem ko_cell {ty : TypeId} {x : Operand} {ad : Addr} {d : TypeDesc} (ho : o.op = .load ty x) (hw : Region.wanted o (yielded ops a.tmps) = true) (hx : a.eval x = .pointer (some ad)) (hu : P.underlying ty = some d) (hd : (match d with | .struct _ | .array _ _ => true | _ => false) = false) (hc : ∀ W, C W → W.cell? ad = some v)
    (h : wpO P ops C Q (k + 1) rest (a.put o.dst v) F) : wpO P ops C Q k (o :: rest) a F := by
  refine ko_take (by unfold kindO; rw [ho]) hw (fun W hW => ?_) h
  have hagg : (isAgg ty).run P W = .ok false W := by
    unfold isAgg
    rw [Sem.run_bind, run_underlying hu W]
    cases d <;> simp_all
  have hlv : (loadVar ty ad).run P W = .ok v W := by simp [loadVar, Sem.run_bind, hagg, hc W hW]
  unfold execOp
  simp only [ho, hx, Instr.loadAt, Instr.sureAddr, Sem.run_bind, Sem.run_pure, Result.andThen_ok, hlv]
theorem ko_cells {ty : TypeId} {x : Operand} {ad : Addr} {d : TypeDesc} {cs : List Value} (ho : o.op = .load ty x) (hw : Region.wanted o (yielded ops a.tmps) = true) (hx : a.eval x = .pointer (some ad)) (hu : P.underlying ty = some d) (hd : (match d with | .struct _ | .array _ _ => true | _ => false) = true) (hi : (P.info? ty).map (·.size) = some cs.length) (hc : ∀ W, C W → ∀ j u, cs[j]? = some u → W.cell? (ad.add j) = some u)
    (h : wpO P ops C Q (k + 1) rest (a.put o.dst (.agg cs.toArray)) F) : wpO P ops C Q k (o :: rest) a F := by
  refine ko_take (by unfold kindO; rw [ho]) hw (fun W hW => ?_) h
  have hl := run_loadCells_list (P := P) W ad cs (hc W hW)
  have hagg : (isAgg ty).run P W = .ok true W := by
    unfold isAgg
    rw [Sem.run_bind, run_underlying hu W]
    cases d <;> simp_all
  obtain ⟨i, hq, hs⟩ := Option.map_eq_some_iff.1 hi
  have hlv : (loadVar ty ad).run P W = .ok (.agg cs.toArray) W := by simp [loadVar, Sem.run_bind, hagg, sizeOf, typeInfo, hq, hs, hl]
  unfold execOp
  simp only [ho, hx, Instr.loadAt, Instr.sureAddr, Sem.run_bind, Sem.run_pure, Result.andThen_ok, hlv]
theorem ko_get (HR : ∀ W, C W → Rd bl p W) {ty : TypeId} {x : Operand} {g j : Nat} {e : TypeId} {cs : Array Value} {d : TypeDesc} (ho : o.op = .load ty x) (hw : Region.wanted o (yielded ops a.tmps) = true) (hx : a.eval x = .pointer (some ⟨g, j, none⟩)) (ha : At bl g (.cells cs e (0, 0)) (.cells cs e (0, 0)) bl') (hu : P.underlying ty = some d) (hd : (match d with | .struct _ | .array _ _ => true | _ => false) = false) (hc : cs[j]? = some v)
    (h : wpO P ops C Q (k + 1) rest (a.put o.dst v) F) : wpO P ops C Q k (o :: rest) a F :=
  ko_cell ho hw hx hu hd (fun W hW => (blk_cell ((HR W hW).at ha) j).trans hc) h
theorem ko_sub (HR : ∀ W, C W → Rd bl p W) {ty : TypeId} {x : Operand} {g j n : Nat} {e : TypeId} {cs : Array Value} {d : TypeDesc} {vs : List Value} (ho : o.op = .load ty x) (hw : Region.wanted o (yielded ops a.tmps) = true) (hx : a.eval x = .pointer (some ⟨g, j, none⟩)) (ha : At bl g (.cells cs e (0, 0)) (.cells cs e (0, 0)) bl') (hu : P.underlying ty = some d) (hd : (match d with | .struct _ | .array _ _ => true | _ => false) = true) (hi : (P.info? ty).map (·.size) = some n) (hv : (cs.toList.drop j).take n = vs) (hn : n = vs.length)
    (h : wpO P ops C Q (k + 1) rest (a.put o.dst (.agg vs.toArray)) F) : wpO P ops C Q k (o :: rest) a F := by
  refine ko_cells ho hw hx hu hd (hn ▸ hi) (fun W hW i u hu => ?_) h
  have hi : i < n := by rw [hn]; exact (List.getElem?_eq_some_iff.1 hu).1
  rw [← hv, List.getElem?_take, if_pos hi, List.getElem?_drop] at hu
  have hc := blk_cell ((HR W hW).at ha) (j + i)
  rw [show ((⟨g, j, none⟩ : Addr).add i) = ⟨g, j + i, none⟩ by
    unfold Addr.add
    split
    · rename_i h0; rw [h0]; rfl
    · rfl, hc]
  simpa using hu
theorem ko_row {n : Nat} {ob : Obj} (hk : kindO o = 0) (hw : Region.wanted o (yielded ops a.tmps) = true) (hy : ∀ W (K : Result Next → Prop), Hid (K (.ok (.value (.slice (some ⟨W.heap.size, 0, none⟩) n n)) (W.alloc ob))) → K ((execOp a.eval o).run P W))
    (h : ∀ x, wpO P ops C Q (k + 1) rest (a.put o.dst (.slice (some ⟨x, 0, none⟩) n n)) { F with fro := (k, x, ob) :: F.fro }) : wpO P ops C Q k (o :: rest) a F :=
  ⟨.new (.sl n n) ob, .inl ⟨hw, trivial, fun W hC _ => ⟨hk, hy W (fun r => r = .ok (.value (.slice (some ⟨W.heap.size, 0, none⟩) n n)) (W.alloc ob)) (Lib.hid rfl)⟩⟩, fun x _ => h x⟩
theorem ko_var {t : TypeId} {cs : Array Value} (hk : kindO o = 2) (hw : Region.wanted o (yielded ops a.tmps) = true) (hy : ∀ W (K : Result Next → Prop), Hid (K (.ok (.value (.pointer (some ⟨W.heap.size, 0, none⟩))) (W.alloc (.cells cs t (0, 0))))) → K ((execOp a.eval o).run P W))
    (h : ∀ x, wpO P ops C Q (k + 1) rest (a.put o.dst (.pointer (some ⟨x, 0, none⟩))) { F with var := (k, x, t, cs) :: F.var }) : wpO P ops C Q k (o :: rest) a F :=
  ⟨.newv t cs, .inl ⟨hw, trivial, fun W hC _ => ⟨hk, hy W (fun r => r = .ok (.value (.pointer (some ⟨W.heap.size, 0, none⟩))) (W.alloc (.cells cs t (0, 0)))) (Lib.hid rfl)⟩⟩, fun x _ => h x⟩
inductive VarAt : List (Nat × Nat × TypeId × Array Value) → Nat → Nat → TypeId → Array Value → Array Value → List (Nat × Nat × TypeId × Array Value) → Prop
  | head {q g : Nat} {t : TypeId} {cs cs' : Array Value} {l : List (Nat × Nat × TypeId × Array Value)} : VarAt ((q, g, t, cs) :: l) q g t cs cs' ((q, g, t, cs') :: l)
  | tail {x : Nat × Nat × TypeId × Array Value} {q g : Nat} {t : TypeId} {cs cs' : Array Value} {l l' : List (Nat × Nat × TypeId × Array Value)} (h : VarAt l q g t cs cs' l') : VarAt (x :: l) q g t cs cs' (x :: l')
theorem VarAt.mem {q g : Nat} {t : TypeId} {cs cs' : Array Value} {l l' : List (Nat × Nat × TypeId × Array Value)} (h : VarAt l q g t cs cs' l') : (q, g, t, cs) ∈ l := by
  induction h with
  | head => exact List.mem_cons_self
  | tail h ih => exact List.mem_cons_of_mem _ ih
theorem VarAt.turn {j q g : Nat} {us : List Value} {t : TypeId} {cs cs' : Array Value} {l l' : List (Nat × Nat × TypeId × Array Value)} (h : VarAt l q g t cs cs' l') (hs : j + us.length ≤ cs.size) (hc : cs'.toList = cs.toList.take j ++ us ++ cs.toList.drop (j + us.length)) (nd : (l.map (·.2.1)).Nodup) : upd g j us l = l' := by
  have hne : ∀ {l : List (Nat × Nat × TypeId × Array Value)}, g ∉ l.map (·.2.1) → upd g j us l = l := fun {l} hn => by
    unfold upd
    conv => rhs; rw [← List.map_id l]
    refine List.map_congr_left fun e he => ?_
    rw [if_neg (fun q => hn (List.mem_map.2 ⟨e, he, q⟩))]
    rfl
  have e : setR j us cs = cs' := by
    rw [setR_row hs]
    apply Array.ext'
    rw [hc]
  induction h with
  | head =>
    simp only [List.map_cons, List.nodup_cons] at nd
    show (if _ then _ else _) :: upd _ j us _ = _
    rw [if_pos rfl, hne nd.1, e]
  | tail h ih =>
    simp only [List.map_cons, List.nodup_cons] at nd
    have hx := nd.1
    have := ih hs hc nd.2 hne e
    show (if _ then _ else _) :: upd _ j us _ = _
    rw [this, if_neg (fun q2 => hx (by rw [q2]; exact List.mem_map.2 ⟨_, h.mem, rfl⟩))]
theorem ko_put {t e : TypeId} {x y : Operand} {q g j : Nat} {u : Value} {cs cs' : Array Value} {l0 l' : List (Nat × Nat × TypeId × Array Value)} (ho : o.op = .store t x y) (hN : o.dst = none) (hw : Region.wanted o (yielded ops a.tmps) = true) (hx : a.eval x = .pointer (some ⟨g, j, none⟩)) (hv : a.eval y = u) (ha0 : VarAt F.var q g e cs cs l0) (hq : depV ops k q = true) (hs : j + u.cells.toList.length ≤ cs.size) (hcs : cs'.toList = cs.toList.take j ++ u.cells.toList ++ cs.toList.drop (j + u.cells.toList.length)) (ha : VarAt F.var q g e cs cs' l') (hl : ∀ q, q ∈ F.log → apartR q (g, j, u.cells.toList.length)) (ht : (P.info? t).map (·.size) = some u.cells.size) (h1 : ∀ q ∈ u.cells.toList, q.oneCell' = true)
    (h : wpO P ops C Q (k + 1) rest a { F with var := l', log := (g, j, u.cells.toList.length) :: F.log }) : wpO P ops C Q k (o :: rest) a F := by
  refine ⟨.put g j u.cells.toList, .inl ⟨hw, ⟨⟨_, ha.mem, rfl, hq, hs⟩, hl⟩, fun W hC hd => ⟨⟨t, x, y, ho, hx, by rw [hv]⟩, ?_⟩⟩, fun z hz => ?_⟩
  · obtain ⟨cur, s1, s2⟩ := hd.2 _ ha.mem hq
    have hr := run_store_run (P := P) (w := W) (g := g) (o := j) (e := e) (cur := cur) t u u.cells.toList s1 rfl (by rw [ht, Array.length_toList]) (by rw [s2]; exact hs) h1
    unfold execOp
    simp only [ho, hx, hv, hr, Sem.run_bind, Sem.run_pure, Result.andThen_ok]
    first | exact ⟨rfl, rfl⟩ | exact rfl | trivial
  · have e1 := ha.turn hs hcs (by have := (sep_less hz.1).2; exact this)
    have e2 : (Res.put g j u.cells.toList).facts k z F = { F with var := l', log := (g, j, u.cells.toList.length) :: F.log } := by
      show Facts.mk _ _ _ = _
      rw [e1]
    rw [e2, hN]
    exact h
theorem ko_call (f : FuncId) (args : Array Value) {fn : Func} {as_ : Array Operand} {ts : Array TypeId} (hop : o.op = .call { callee := .value (.func f), args := as_, argTypes := ts }) (hw : Region.wanted o (yielded ops a.tmps) = true) (hf : P.funcs[f]? = some fn) (hname : (fn.name == "runtime.NumGoroutine") = false) (hb : fn.body.isSome = true) (hi : P.inits.idxOf? f = none) (hargs : as_.map a.eval = args)
    (hc : ∀ W, C W → depH ops k F W → Calls P f args W fun e w' => e = .returned v ∧ Below W.heap.size W w')
    (h : wpO P ops C Q (k + 1) rest (a.put o.dst v) F) : wpO P ops C Q k (o :: rest) a F := by
  refine ⟨.val v, .inl ⟨hw, trivial, fun W hC hd => ⟨by unfold kindO; rw [hop]; show (0 : Nat) ≠ 1; decide, ?_⟩⟩, fun _ _ => h⟩
  have he := enters_ hf hname hb args W
  have hrun : (execOp a.eval o).run P W = .ok (.enter f args) W := by
    unfold execOp
    simp [hop, resolve, Deferred.ofValue, invoke, Act.eval, hargs, he]
  rw [hrun]
  exact ⟨rfl, hi, hc W hC hd⟩
theorem depH.hd {j x : Nat} {ob : Obj} {fro : List (Nat × Nat × Obj)} {vr : List (Nat × Nat × TypeId × Array Value)} {lg : List (Nat × Nat × Nat)} {W : World} (h : depH ops k ⟨(j, x, ob) :: fro, vr, lg⟩ W) (hd : depB ops k j = true) : W.heap[x]? = some ob := h.1 _ List.mem_cons_self hd
theorem depH.tl {q : Nat × Nat × Obj} {fro : List (Nat × Nat × Obj)} {vr : List (Nat × Nat × TypeId × Array Value)} {lg : List (Nat × Nat × Nat)} {W : World} (h : depH ops k ⟨q :: fro, vr, lg⟩ W) : depH ops k ⟨fro, vr, lg⟩ W := ⟨fun p hp => h.1 p (List.mem_cons_of_mem _ hp), h.2⟩
theorem ko_end (h : Q a F) : wpO P ops C Q k [] a F := h
end
theorem results_c {P : Program} {fn : Func} {q : Tmp} {ty : TypeId} (h : fn.results = #[.cell q ty]) (tmps : Array Value) (w : World) (g : Nat) (t : TypeId) (cs : Array Value) (fr : Nat × Nat) (d : TypeDesc)
    (hp : tmps.getD q undef = .pointer (some ⟨g, 0, none⟩)) (hg : w.heap[g]? = some (.cells cs t fr))
    (hu : P.underlying ty = some d) (hd : (match d with | .struct _ | .array _ _ => true | _ => false) = true) (hi : (P.info? ty).map (·.size) = some cs.size) :
    (results fn tmps).run P w = .ok (.agg cs) w := by
  have hp' : tmps[q]?.getD undef = .pointer (some ⟨g, 0, none⟩) := by simpa using hp
  simp [results, h, hp', asAddr, run_loadVar_row w g t ty cs fr d hg hu hd hi]
theorem ints_of_block {W : World} {x : Nat} {t : TypeId} {l : List Int} (h : W.heap[x]? = some (.cells (l.map (Value.int .i64)).toArray t (0, 0))) (hl : l.length ≤ 9223372036854775807) : Kd.C (Kd.int .i64) W (some ⟨x, 0, none⟩) l.length l := by
  refine ⟨rfl, hl, fun _ => ⟨_, rfl, fun j q hq => ?_⟩⟩
  refine ⟨[.int .i64 q], rfl, rfl, fun i u hu => ?_⟩
  match i, hu with
  | 0, hu =>
    have e : Value.int .i64 q = u := by simpa using hu
    rw [← e]
    have := blk_cell h j
    show W.cell? ((⟨x, 0, none⟩ : Addr).add (j * 1 + 0)) = _
    rw [show ((⟨x, 0, none⟩ : Addr).add (j * 1 + 0)) = ⟨x, j, none⟩ by
      unfold Addr.add
      split
      · rename_i h0; simp at h0; rw [h0]
      · simp, this]
    simp [hq]
end Go.Proofs.YtdaohldmojpihaaGreatDoorKr

namespace Go.Proofs.YtdaohldmojpihaaGreatDoorRz
open Go.RowKit Go.Proofs.YtdaohldmojpihaaGreatDoorW.PrintWords Go.Proofs.YtdaohldmojpihaaGreatDoorW.PrintLast Go.Proofs.YtdaohldmojpihaaGreatDoorW.PrintMore
open Go.Proofs.YtdaohldmojpihaaGreatDoorEm (Fr Chg At Of Tr Keep Frs)
set_option linter.unusedVariables false
def mk (n : Nat) : List Nat → Array Bool
  | [] => Array.replicate n false
  | i :: l => (mk n l).setIfInBounds i true
section
variable {P : Program} {ops : Array Oper} {Q : Exit → Act → World → Prop} {md : Region.Mode} {S : World → Prop} {ds : List Nat}
def Reads (P : Program) (ops : Array Oper) (S : World → Prop) (o : Oper) (v : Value) (a : Act) : Prop :=
  Region.wanted o (yielded ops a.tmps) = true ∧ ∀ w, S w → ∃ f args, (execOp a.eval o).run P w = .ok (.enter f args) w ∧ Calls P f args w fun e w' => e = .returned v ∧ w' = w
theorem Reads.wpOp {i : Nat} {o : Oper} {v : Value} {a : Act} (hi : ops[i]? = some o) (hy : Reads P ops S o v a) {K : Act → World → Prop} {w : World} (hS : S w) (h : K (a.put o.dst v) w) : wpOp P ops Q i K a w := by
  unfold Go.wpOp
  obtain ⟨hw, hy⟩ := hy
  obtain ⟨f, args, hr, hc⟩ := hy w hS
  simp only [hi, hw, if_true]
  refine .inl ?_
  unfold Oper.wp
  rw [hr, Oper.upon_enter]
  refine hc.mono fun e w' he => ?_
  obtain ⟨rfl, rfl⟩ := he
  exact h
theorem Reads.same {o : Oper} {v : Value} {a a' : Act} (hy : Reads P ops S o v a) (he : execOp a'.eval o = execOp a.eval o) (hw : Region.wanted o (yielded ops a'.tmps) = Region.wanted o (yielded ops a.tmps)) : Reads P ops S o v a' := by
  unfold Reads at *
  rw [he, hw]
  exact hy
theorem wpOp_reads {j : Nat} {oi oj : Oper} {v : Value} (hj : ops[j]? = some oj) (hap : oi.apart ops oj = true) (hsi : ∀ cs b, oi.op ≠ .select cs b) (hsj : ∀ cs b, oj.op ≠ .select cs b)
    (hQ : ∀ c a w, Q (.panic c) (a.put oi.dst v) w → Q (.panic c) a w) {K : Act → World → Prop} {a : Act} {w : World} (hy : Reads P ops S oi v a) (h : wpOp P ops Q j K (a.put oi.dst v) w) :
    wpOp P ops Q j (fun a' w' => Reads P ops S oi v a' ∧ K (a'.put oi.dst v) w') a w := by
  obtain ⟨h1, h2, h3⟩ := Oper.apart_spec hap
  have hk : ∀ (b : Act), Reads P ops S oi v b → ∀ u, Reads P ops S oi v (b.put oj.dst u) := fun b hb u => hb.same (execOp_put oi hsi b oj.dst u h3) (wanted_put oi b oj.dst u h3)
  have hkd : ∀ d, Reads P ops S oi v { a with defers := d :: a.defers } := fun d => hy.same rfl rfl
  unfold wpOp at *
  simp only [hj] at *
  rw [wanted_put oj a oi.dst v h1] at h
  by_cases hw : Region.wanted oj (yielded ops a.tmps) = true
  · rw [if_pos hw] at h ⊢
    rcases h with h | ⟨q1, q2⟩
    · refine .inl ?_
      unfold Oper.wp at *
      rw [execOp_put oj hsj a oi.dst v h1] at h
      cases hr : (execOp a.eval oj).run P w with
      | ok n w' =>
        rw [hr] at h
        cases n <;> simp only [Oper.upon] at h ⊢
        case value u => rw [Act.put_comm a v u h2] at h; exact ⟨hk a hy u, h⟩
        case skip => rw [Act.put_comm a v undef h2] at h; exact ⟨hk a hy _, h⟩
        case defer d =>
          refine ⟨hk _ (hkd d) _, ?_⟩
          rw [← Act.put_comm _ v undef h2, ← Act.put_defers]
          exact h
        case enter f args =>
          refine Calls.mono h fun e w'' he => ?_
          cases e with
          | returned u => exact ⟨hk a hy u, (Act.put_comm a v u h2) ▸ he⟩
          | panicked c => exact hQ _ _ _ he
          | outgrown => exact he
        case row row args => exact Rows.mono h fun u w'' he => ⟨hk a hy u, (Act.put_comm a v u h2) ▸ he⟩
      | halt x w' =>
        rw [hr] at h
        cases x <;> simp only [Oper.upon] at h ⊢
        case panic u => exact hQ _ _ _ h
    · exact .inr ⟨by unfold Oper.asks at *; rw [execOp_put oj hsj a oi.dst v h1] at q1; exact q1, q2⟩
  · rw [if_neg hw] at h ⊢
    rw [Act.put_comm a v undef h2] at h
    exact ⟨hk a hy _, h⟩
theorem first_reads {i : Nat} {oi : Oper} {v : Value} (hi : ops[i]? = some oi) (hsel : ∀ (j : Nat) (o : Oper) cs b, ops[j]? = some o → o.op ≠ .select cs b) (hQ : ∀ c a w, Q (.panic c) (a.put oi.dst v) w → Q (.panic c) a w) (n : Nat) :
    ∀ (fuel : Nat) (listed : Array Bool) (a : Act) (w : World),
      (∀ j oj, ops[j]? = some oj → j ≠ i → listed.getD j true = false → (∀ e ∈ oj.after, Region.binds md e = true → e.on ≠ i) → oi.apart ops oj = true) →
      ListedClosed md ops listed → (∀ d ∈ ds, listed.getD d true = false → Region.reachB md ops i n d = true) →
      i ∈ Region.ready md ops listed → Reads P ops S oi v a → S w →
      wpAnyLast P md ops Q S ds fuel (listed.setIfInBounds i true) (a.put oi.dst v) w → wpAnyLast P md ops Q S ds (fuel + 1) listed a w := by
  intro fuel
  induction fuel with
  | zero =>
    intro listed a w _ _ _ hr hy hS H
    refine ⟨fun h => (by rw [h] at hr; cases hr), fun j hj => ?_⟩
    by_cases hji : j = i
    · subst hji; exact hy.wpOp hi hS ⟨fun _ h => h, H⟩
    · have := ready_mono hj hji
      rw [H.1] at this
      cases this
  | succ fuel ih =>
    intro listed a w hfree hc hd hr hy hS H
    refine ⟨fun h => (by rw [h] at hr; cases hr), fun j hj => ?_⟩
    by_cases hji : j = i
    · subst hji; exact hy.wpOp hi hS ⟨fun _ h => h, H⟩
    · have h1 := H.2 j (ready_mono hj hji)
      obtain ⟨hjun, oj, hoj, hall⟩ := mem_ready.1 hj
      have hiun := (mem_ready.1 hr).1
      have hnot : ∀ e ∈ oj.after, Region.binds md e = true → e.on ≠ i := fun e he hb heq => by
        have h1 := hall e he hb
        rw [heq] at h1
        rcases Nat.lt_or_ge i listed.size with h' | h'
        · simp [h'] at hiun h1; rw [hiun] at h1; cases h1
        · simp [Array.getElem?_eq_none h'] at h1
      have hjd : j ∉ ds := fun hm => Region.reach_not_ready hc (hd j hm hjun) hiun hj
      have h2 := wpOp_reads hoj (hfree j oj hoj hji hjun hnot) (fun cs b => hsel i oi cs b hi) (fun cs b => hsel j oj cs b hoj) hQ hy h1
      have hne : ∀ k, (listed.setIfInBounds j true).getD k true = false → listed.getD k true = false := fun k hun => by
        by_cases hjk : j = k
        · subst hjk; exact hjun
        · rw [getD_set_ne true hjk] at hun; exact hun
      refine wpOp_mono (fun a' w' h3 => ⟨h3.2.1, ih (listed.setIfInBounds j true) a' w' (fun k ok hk hki hun => hfree k ok hk hki (hne k hun)) (hc.set hj) (fun d hm hun => hd d hm (hne d hun)) (ready_mono hr (Ne.symm hji)) h3.1 (h3.2.1 hjd hS) ?_⟩) h2
      rw [Array.setIfInBounds_comm _ _ hji]
      exact h3.2.2
end
section
variable {P : Program} {ops : Array Oper} {Q : Exit → Act → World → Prop} {S : World → Prop} {ds : List Nat} {n i : Nat} {dn : List Nat} {a : Act} {w : World} {o : Oper} {rest : List (Nat × Oper)} {v : Value}
def RO (P : Program) (ops : Array Oper) (Q : Exit → Act → World → Prop) (S : World → Prop) (ds : List Nat) (n : Nat) (dn : List Nat) (rest : List (Nat × Oper)) (a : Act) (w : World) : Prop :=
  (∀ x ∈ rest, ops[x.1]? = some x.2) → wpAnyLast P .any ops Q S ds rest.length (mk n dn) a w
theorem ro_hd (e : ∀ x ∈ (i, o) :: rest, ops[x.1]? = some x.2) : ops[i]? = some o := e _ List.mem_cons_self
theorem ro_tl {x : Nat × Oper} (e : ∀ y ∈ x :: rest, ops[y.1]? = some y.2) : ∀ y ∈ rest, ops[y.1]? = some y.2 := fun y hy => e y (List.mem_cons_of_mem _ hy)
def pickR (l : List Oper) : List Nat → List (Nat × Oper)
  | [] => []
  | i :: r => match l[i]? with
    | some o => (i, o) :: pickR l r
    | none => pickR l r
theorem pickR_mem {l : List Oper} : ∀ {r : List Nat} {x : Nat × Oper}, x ∈ pickR l r → l[x.1]? = some x.2 := by
  intro r
  induction r with
  | nil => intro x h; cases h
  | cons i r ih =>
    intro x h
    cases ho : l[i]? with
    | none =>
      rw [pickR, ho] at h
      exact ih h
    | some o =>
      rw [pickR, ho] at h
      rcases List.mem_cons.1 h with rfl | h
      · exact ho
      · exact ih h
theorem ro_start (S : World → Prop) (ds ord : List Nat) (n : Nat) {id : Nat} {l : List Oper} (hm : P.follows .mixedOrders = true) (hn : l.length = n) (hr : pickR l ord = rest) (hl : rest.length = n) (hS : S w.drew) (h : S w.drew → RO P l.toArray Q S ds n [] rest a w.drew) : (Code.region id l.toArray true).wp P Q a w := by
  refine start_ (ds := ds) (mk n []) hm (by simpa using hn) rfl hS (fun h1 => ?_)
  have := h h1 (fun x hx => by subst hr; simpa using pickR_mem hx)
  rw [hl] at this
  exact this
theorem ro_pure (hc : anyB .any ops (mk n dn) (mk n (i :: dn)) i = true) (hQ : ∀ c a w, Q (.panic c) (a.put o.dst v) w → Q (.panic c) a w)
    (hw : Region.wanted o (yielded ops a.tmps) = true) (hy : ∀ w (K : Result Next → Prop), Hid (K (.ok (.value v) w)) → K ((execOp a.eval o).run P w)) (h : RO P ops Q S ds n (i :: dn) rest (a.put o.dst v) w) : RO P ops Q S ds n dn ((i, o) :: rest) a w :=
  fun e => pure_ (mk n (i :: dn)) (ro_hd e) rfl hc hQ (.inl ⟨hw, fun w => hy w (fun r => r = .ok (.value v) w) (Lib.hid rfl)⟩) rfl (h (ro_tl e))
theorem ro_off (hc : anyB .any ops (mk n dn) (mk n (i :: dn)) i = true) (hQ : ∀ c a w, Q (.panic c) (a.put o.dst undef) w → Q (.panic c) a w)
    (hw : Region.wanted o (yielded ops a.tmps) = false) (h : RO P ops Q S ds n (i :: dn) rest (a.put o.dst undef) w) : RO P ops Q S ds n dn ((i, o) :: rest) a w :=
  fun e => pure_ (mk n (i :: dn)) (ro_hd e) rfl hc hQ (.inr ⟨hw, rfl⟩) rfl (h (ro_tl e))
theorem ro_take (hc : takeB .any ops ds (mk n dn) (mk n (i :: dn)) i = true) (hQ : ∀ c a w, Q (.panic c) (a.put o.dst v) w → Q (.panic c) a w)
    (hw : Region.wanted o (yielded ops a.tmps) = true) (hS : S w) (hy : ∀ w, S w → (execOp a.eval o).run P w = .ok (.value v) w) (h : RO P ops Q S ds n (i :: dn) rest (a.put o.dst v) w) : RO P ops Q S ds n dn ((i, o) :: rest) a w :=
  fun e => take_ (mk n (i :: dn)) (ro_hd e) rfl hc hQ (.inl ⟨hw, hy⟩) hS rfl (h (ro_tl e))
theorem ro_quiet (f : FuncId) (args : Array Value) {fn : Func} {as_ : Array Operand} {ts : Array TypeId} (hop : o.op = .call { callee := .value (.func f), args := as_, argTypes := ts }) (hc : takeB .any ops ds (mk n dn) (mk n (i :: dn)) i = true) (hQ : ∀ c a w, Q (.panic c) (a.put o.dst v) w → Q (.panic c) a w)
    (hw : Region.wanted o (yielded ops a.tmps) = true) (hf : P.funcs[f]? = some fn) (hname : (fn.name == "runtime.NumGoroutine") = false) (hb : fn.body.isSome = true) (hargs : as_.map a.eval = args) (hS : S w)
    (hcall : ∀ w, S w → Calls P f args w fun e w' => e = .returned v ∧ w' = w) (h : RO P ops Q S ds n (i :: dn) rest (a.put o.dst v) w) : RO P ops Q S ds n dn ((i, o) :: rest) a w := fun e => by
  have hy : Reads P ops S o v a := ⟨hw, fun w hS => ⟨f, args, by
    have he := enters_ hf hname hb args w
    unfold execOp
    simp [hop, resolve, Deferred.ofValue, invoke, Act.eval, hargs, he], hcall w hS⟩⟩
  simp only [takeB, Bool.and_eq_true, beq_iff_eq] at hc
  obtain ⟨⟨⟨⟨⟨h1, h2⟩, h3⟩, h4⟩, h5⟩, h6⟩ := hc
  have hh := h (ro_tl e)
  rw [← h6] at hh
  exact first_reads (ro_hd e) (Region.noSelect_spec h1) hQ ops.size rest.length (mk n dn) a w (Region.free_spec (ro_hd e) h2) (Region.closedB_spec h4) (fun d hm hun => by have := List.all_eq_true.1 h5 d hm; rw [hun] at this; simpa using this) (by simpa using h3) hy hS hh
theorem ro_one (hc : readyB .any ops (mk n dn) (mk n (i :: dn)) i = true) (hd : ds.contains i = false)
    (hw : Region.wanted o (yielded ops a.tmps) = true) (h : ∀ K : Act → World → Prop, (∀ a' w', S w' → (S w' → RO P ops Q S ds n (i :: dn) rest a' w') → K a' w') → Oper.wp P o a w K Q) : RO P ops Q S ds n dn ((i, o) :: rest) a w :=
  fun e => one_ (mk n (i :: dn)) (ro_hd e) rfl hc (by simpa using hd) (fun K hK => by
    rw [if_pos hw]
    exact h K (fun a' w' h1 h2 => hK _ _ h1 (fun h3 => h2 h3 (ro_tl e))))
theorem ro_last (hc : readyB .any ops (mk n dn) (mk n (i :: dn)) i = true) (hd : ds.contains i = true)
    (hw : Region.wanted o (yielded ops a.tmps) = true) (h : ∀ K : Act → World → Prop, (∀ a' w', RO P ops Q S ds n (i :: dn) rest a' w' → K a' w') → Oper.wp P o a w K Q) : RO P ops Q S ds n dn ((i, o) :: rest) a w :=
  fun e => last_ (mk n (i :: dn)) (ro_hd e) rfl hc (by simpa using hd) (fun K hK => by
    rw [if_pos hw]
    exact h K (fun a' w' h1 => hK _ _ (h1 (ro_tl e))))
theorem wp_enter (f : FuncId) (args : Array Value) {fn : Func} {as_ : Array Operand} {ts : Array TypeId} (hop : o.op = .call { callee := .value (.func f), args := as_, argTypes := ts }) (hf : P.funcs[f]? = some fn) (hname : (fn.name == "runtime.NumGoroutine") = false) (hb : fn.body.isSome = true) (hargs : as_.map a.eval = args) {K : Act → World → Prop}
    (h : Calls P f args w fun e w' => ∃ v, e = .returned v ∧ K (a.put o.dst v) w') : Oper.wp P o a w K Q := by
  have he := enters_ hf hname hb args w
  have hrun : (execOp a.eval o).run P w = .ok (.enter f args) w := by
    unfold execOp
    simp [hop, resolve, Deferred.ofValue, invoke, Act.eval, hargs, he]
  unfold Oper.wp
  rw [hrun, Oper.upon_enter]
  refine h.mono fun e w'' hh => ?_
  obtain ⟨v, rfl, h1⟩ := hh
  exact h1
theorem ro_call (f : FuncId) (args : Array Value) {fn : Func} {as_ : Array Operand} {ts : Array TypeId} (hop : o.op = .call { callee := .value (.func f), args := as_, argTypes := ts }) (hc : readyB .any ops (mk n dn) (mk n (i :: dn)) i = true) (hd : ds.contains i = false)
    (hw : Region.wanted o (yielded ops a.tmps) = true) (hf : P.funcs[f]? = some fn) (hname : (fn.name == "runtime.NumGoroutine") = false) (hb : fn.body.isSome = true) (hargs : as_.map a.eval = args)
    (h : Calls P f args w fun e w' => ∃ v, e = .returned v ∧ S w' ∧ (S w' → RO P ops Q S ds n (i :: dn) rest (a.put o.dst v) w')) : RO P ops Q S ds n dn ((i, o) :: rest) a w :=
  ro_one hc hd hw fun K hK => wp_enter f args hop hf hname hb hargs (h.mono fun e w' ⟨v, h1, h2, h3⟩ => ⟨v, h1, hK _ _ h2 h3⟩)
theorem ro_callL (f : FuncId) (args : Array Value) {fn : Func} {as_ : Array Operand} {ts : Array TypeId} (hop : o.op = .call { callee := .value (.func f), args := as_, argTypes := ts }) (hc : readyB .any ops (mk n dn) (mk n (i :: dn)) i = true) (hd : ds.contains i = true)
    (hw : Region.wanted o (yielded ops a.tmps) = true) (hf : P.funcs[f]? = some fn) (hname : (fn.name == "runtime.NumGoroutine") = false) (hb : fn.body.isSome = true) (hargs : as_.map a.eval = args)
    (h : Calls P f args w fun e w' => ∃ v, e = .returned v ∧ RO P ops Q S ds n (i :: dn) rest (a.put o.dst v) w') : RO P ops Q S ds n dn ((i, o) :: rest) a w :=
  ro_last hc hd hw fun K hK => wp_enter f args hop hf hname hb hargs (h.mono fun e w' ⟨v, h1, h2⟩ => ⟨v, h1, hK _ _ h2⟩)
theorem ro_done (hr : (Region.ready .any ops (mk n dn) == []) = true) (h : Q .normal a w) : RO P ops Q S ds n dn [] a w := fun _ => done_ hr h
theorem rz_load {ty : TypeId} {x : Operand} (_ho : o.op = .load ty x) (h : RO P ops Q S ds n dn ((i, o) :: rest) a w) : RO P ops Q S ds n dn ((i, o) :: rest) a w := h
theorem rz_store {ty : TypeId} {x y : Operand} (_ho : o.op = .store ty x y) (h : RO P ops Q S ds n dn ((i, o) :: rest) a w) : RO P ops Q S ds n dn ((i, o) :: rest) a w := h
theorem rz_dst {N : Tmp} (_hd : o.dst = some N) (h : RO P ops Q S ds n dn ((i, o) :: rest) a w) : RO P ops Q S ds n dn ((i, o) :: rest) a w := h
theorem rz_call {f : FuncId} {as_ : Array Operand} {ts : Array TypeId} (_ho : o.op = .call { callee := .value (.func f), args := as_, argTypes := ts }) (h : RO P ops Q S ds n dn ((i, o) :: rest) a w) : RO P ops Q S ds n dn ((i, o) :: rest) a w := h
theorem ro_cell {ty : TypeId} {x : Operand} {ad : Addr} {d : TypeDesc} (ho : o.op = .load ty x) (hc : takeB .any ops ds (mk n dn) (mk n (i :: dn)) i = true) (hQ : ∀ c a w, Q (.panic c) (a.put o.dst v) w → Q (.panic c) a w)
    (hw : Region.wanted o (yielded ops a.tmps) = true) (hS : S w) (hx : a.eval x = .pointer (some ad)) (hu : P.underlying ty = some d) (hd : (match d with | .struct _ | .array _ _ => true | _ => false) = false) (hcc : ∀ W, S W → W.cell? ad = some v)
    (h : RO P ops Q S ds n (i :: dn) rest (a.put o.dst v) w) : RO P ops Q S ds n dn ((i, o) :: rest) a w := by
  refine ro_take hc hQ hw hS (fun W hW => ?_) h
  have hagg : (isAgg ty).run P W = .ok false W := by
    unfold isAgg
    rw [Sem.run_bind, run_underlying hu W]
    cases d <;> simp_all
  have hlv : (loadVar ty ad).run P W = .ok v W := by simp [loadVar, Sem.run_bind, hagg, hcc W hW]
  unfold execOp
  simp only [ho, hx, Instr.loadAt, Instr.sureAddr, Sem.run_bind, Sem.run_pure, Result.andThen_ok, hlv]
theorem ro_cells {ty : TypeId} {x : Operand} {ad : Addr} {d : TypeDesc} {cs : List Value} (ho : o.op = .load ty x) (hc : takeB .any ops ds (mk n dn) (mk n (i :: dn)) i = true) (hQ : ∀ c a w, Q (.panic c) (a.put o.dst (.agg cs.toArray)) w → Q (.panic c) a w)
    (hw : Region.wanted o (yielded ops a.tmps) = true) (hS : S w) (hx : a.eval x = .pointer (some ad)) (hu : P.underlying ty = some d) (hd : (match d with | .struct _ | .array _ _ => true | _ => false) = true) (hi : (P.info? ty).map (·.size) = some cs.length) (hcc : ∀ W, S W → ∀ j u, cs[j]? = some u → W.cell? (ad.add j) = some u)
    (h : RO P ops Q S ds n (i :: dn) rest (a.put o.dst (.agg cs.toArray)) w) : RO P ops Q S ds n dn ((i, o) :: rest) a w := by
  refine ro_take hc hQ hw hS (fun W hW => ?_) h
  have hl := run_loadCells_list (P := P) W ad cs (hcc W hW)
  have hagg : (isAgg ty).run P W = .ok true W := by
    unfold isAgg
    rw [Sem.run_bind, run_underlying hu W]
    cases d <;> simp_all
  obtain ⟨i, hq, hs⟩ := Option.map_eq_some_iff.1 hi
  have hlv : (loadVar ty ad).run P W = .ok (.agg cs.toArray) W := by simp [loadVar, Sem.run_bind, hagg, sizeOf, typeInfo, hq, hs, hl]
  unfold execOp
  simp only [ho, hx, Instr.loadAt, Instr.sureAddr, Sem.run_bind, Sem.run_pure, Result.andThen_ok, hlv]
end
section
variable {P : Program} {ops : Array Oper} {Q : Exit → Act → World → Prop} {ds : List Nat} {n i : Nat} {dn : List Nat} {a : Act} {W : World} {o : Oper} {rest : List (Nat × Oper)} {v : Value} {M A M0 A0 : Nat → Prop} {w w0 : World} {bl bl' bl0 : List (Nat × Obj)} {p p0 : World → Prop}
theorem ro_get (HS : Fr M A w W bl p) {ty : TypeId} {x : Operand} {g j : Nat} {e : TypeId} {cs : Array Value} {d : TypeDesc} (ho : o.op = .load ty x) (hc : takeB .any ops ds (mk n dn) (mk n (i :: dn)) i = true) (hQ : ∀ c a w, Q (.panic c) (a.put o.dst v) w → Q (.panic c) a w) (hw : Region.wanted o (yielded ops a.tmps) = true) (hx : a.eval x = .pointer (some ⟨g, j, none⟩)) (ha : At bl g (.cells cs e (0, 0)) (.cells cs e (0, 0)) bl') (hu : P.underlying ty = some d) (hd : (match d with | .struct _ | .array _ _ => true | _ => false) = false) (hcs : cs[j]? = some v)
    (h : RO P ops Q (Frs M A w bl p) ds n (i :: dn) rest (a.put o.dst v) W) : RO P ops Q (Frs M A w bl p) ds n dn ((i, o) :: rest) a W :=
  ro_cell ho hc hQ hw HS hx hu hd (fun W' (hW' : Fr M A w W' bl p) => (hW'.cell ha j).trans hcs) h
theorem ro_sub (HS : Fr M A w W bl p) {ty : TypeId} {x : Operand} {g j m : Nat} {e : TypeId} {cs : Array Value} {d : TypeDesc} {vs : List Value} (ho : o.op = .load ty x) (hc : takeB .any ops ds (mk n dn) (mk n (i :: dn)) i = true) (hQ : ∀ c a w, Q (.panic c) (a.put o.dst (.agg vs.toArray)) w → Q (.panic c) a w) (hw : Region.wanted o (yielded ops a.tmps) = true) (hx : a.eval x = .pointer (some ⟨g, j, none⟩)) (ha : At bl g (.cells cs e (0, 0)) (.cells cs e (0, 0)) bl') (hu : P.underlying ty = some d) (hd : (match d with | .struct _ | .array _ _ => true | _ => false) = true) (hi : (P.info? ty).map (·.size) = some m) (hv : (cs.toList.drop j).take m = vs) (hm : m = vs.length)
    (h : RO P ops Q (Frs M A w bl p) ds n (i :: dn) rest (a.put o.dst (.agg vs.toArray)) W) : RO P ops Q (Frs M A w bl p) ds n dn ((i, o) :: rest) a W := by
  refine ro_cells ho hc hQ hw HS hx hu hd (hm ▸ hi) (fun W' (hW' : Fr M A w W' bl p) q u hu => ?_) h
  have hi : q < m := by rw [hm]; exact (List.getElem?_eq_some_iff.1 hu).1
  rw [← hv, List.getElem?_take, if_pos hi, List.getElem?_drop] at hu
  have hc := hW'.cell ha (j + q)
  rw [show ((⟨g, j, none⟩ : Addr).add q) = ⟨g, j + q, none⟩ by
    unfold Addr.add
    split
    · rename_i h0; rw [h0]; rfl
    · rfl, hc]
  simpa using hu
theorem ro_row (H : Fr M A w W bl p) {m : Nat} {cs : Array Value} {t : TypeId} (hc : readyB .any ops (mk n dn) (mk n (i :: dn)) i = true) (hd : ds.contains i = false) (hw : Region.wanted o (yielded ops a.tmps) = true)
    (hrun : ∀ K : Result Next → Prop, Hid (K (.ok (.value (.slice (some ⟨W.heap.size, 0, none⟩) m m)) (W.alloc (.cells cs t (0, 0))))) → K ((execOp a.eval o).run P W))
    (h : ∀ g w1, w1.heap[g]? = some (.cells cs t (0, 0)) → Fr M A w w1 bl p → RO P ops Q (Frs M A w bl p) ds n (i :: dn) rest (a.put o.dst (.slice (some ⟨g, 0, none⟩) m m)) w1) : RO P ops Q (Frs M A w bl p) ds n dn ((i, o) :: rest) a W := by
  refine ro_one hc hd hw fun K hK => ?_
  have hr := hrun (fun r => r = .ok (.value (.slice (some ⟨W.heap.size, 0, none⟩) m m)) (W.alloc (.cells cs t (0, 0)))) (Lib.hid rfl)
  have hF : Fr M A w (W.alloc (.cells cs t (0, 0))) bl p := H.call (below_alloc (Below.refl _ _) _)
  unfold Oper.wp
  rw [hr]
  exact hK _ _ hF (fun _ => h _ _ (blk_new W _) hF)
theorem ro_box (H : Fr M0 A0 w0 W bl0 p0) {S : World → Prop} {t : TypeId} {x : Operand} (ho : o.op = .box t x) (hc : readyB .any ops (mk n dn) (mk n (i :: dn)) i = true) (hd : ds.contains i = true) (hw : Region.wanted o (yielded ops a.tmps) = true) {cs : Array Value} (hx : a.eval x = .agg cs)
    (h : ∀ g w1, W.heap.size ≤ g → Fr M0 A0 w0 w1 ((g, .cells cs t (0, 0)) :: bl0) p0 → RO P ops Q S ds n (i :: dn) rest (a.put o.dst (.pointer (some ⟨g, 0, none⟩))) w1) : RO P ops Q S ds n dn ((i, o) :: rest) a W := by
  refine ro_last hc hd hw fun K hK => ?_
  have hr : (execOp a.eval o).run P W = .ok (.value (.pointer (some ⟨W.heap.size, 0, none⟩))) (W.alloc (.cells cs t (0, 0))) := by
    simp [execOp, ho, Instr.box, newVar, newRow, newObj, hx]
    rfl
  unfold Oper.wp
  rw [hr]
  exact hK _ _ (h _ _ (Nat.le_refl _) (H.alloc rfl (blk_new W (.cells cs t (0, 0))) (below_alloc (Below.refl _ _) _)))
theorem ro_set (H : Fr M0 A0 w0 W bl0 p0) {S : World → Prop} {t : TypeId} {x y : Operand} (ho : o.op = .store t x y) (hN : o.dst = none) (hc : readyB .any ops (mk n dn) (mk n (i :: dn)) i = true) (hd : ds.contains i = true) (hw : Region.wanted o (yielded ops a.tmps) = true) {g j : Nat} {e : TypeId} {old cs : Array Value} {u : Value}
    (hp : a.eval x = .pointer (some ⟨g, j, none⟩)) (hv : a.eval y = u) (ha : At bl0 g (.cells old e (0, 0)) (.cells cs e (0, 0)) bl') (hs : j + u.cells.size ≤ old.size) (hcs : cs.toList = old.toList.take j ++ u.cells.toList ++ old.toList.drop (j + u.cells.size)) (ht : (P.info? t).map (·.size) = some u.cells.size) (h1 : ∀ q ∈ u.cells.toList, q.oneCell' = true)
    (h : ∀ w1, Fr M0 A0 w0 w1 bl' p0 → RO P ops Q S ds n (i :: dn) rest a w1) : RO P ops Q S ds n dn ((i, o) :: rest) a W := by
  have hg := (H.blk _ ha.mem).1
  refine ro_last hc hd hw fun K hK => ?_
  have hr := run_store_run (P := P) (w := W) (g := g) (o := j) (e := e) (cur := old) t u u.cells.toList hg rfl (by rw [ht, Array.length_toList]) (by rw [Array.length_toList]; omega) h1
  unfold Oper.wp execOp
  simp only [ho, hp, hv, hr, Sem.run_bind, Sem.run_pure, Result.andThen_ok]
  show K (a.put o.dst undef) _
  rw [hN]
  refine hK _ _ (h _ (H.put ha ?_ ?_ ?_ ?_))
  · obtain ⟨cur', h3, h4, h5⟩ := setCells_row u.cells.toList j W old hg (by rw [Array.length_toList]; omega)
    have h6 : cur' = cs := by
      apply Array.ext'
      rw [h5, hcs, Array.length_toList]
    rw [h3, h6]
  · obtain ⟨s1, s2, s3, s4⟩ := setCells_same g u.cells.toList j W
    exact ⟨s1, s2, s3, by rw [s4]; exact Nat.le_refl _, fun k _ hk => setCells_far _ _ k (fun he => hk (by rw [he]))⟩
  · exact fun k hk => setCells_far _ _ k hk
  · exact (setCells_same g u.cells.toList j W).2.2.2
end
end Go.Proofs.YtdaohldmojpihaaGreatDoorRz

namespace Go.Proofs.YtdaohldmojpihaaGreatDoorAy
open Go.RowKit Go.Proofs.YtdaohldmojpihaaGreatDoorW.PrintWords Go.Proofs.YtdaohldmojpihaaGreatDoorW.PrintLast Go.Proofs.YtdaohldmojpihaaGreatDoorW.PrintMore Go.Proofs.YtdaohldmojpihaaGreatDoorEm Go.Proofs.YtdaohldmojpihaaGreatDoorKr Go.Proofs.YtdaohldmojpihaaGreatDoorRz
set_option linter.unusedVariables false
def aggD (d : TypeDesc) : Bool := match d with | .struct _ | .array _ _ => true | _ => false
def SU (P : Program) (ty : TypeId) : Prop := ∃ d, P.underlying ty = some d ∧ aggD d = false
def AU (P : Program) (ty : TypeId) (n : Nat) : Prop := ∃ d, P.underlying ty = some d ∧ aggD d = true ∧ (P.info? ty).map (·.size) = some n
theorem t3 : SU Tryz.prog 3 := ⟨_, Tryz.underlying3, rfl⟩
theorem t23 : AU Tryz.prog 23 12 := ⟨_, Tryz.underlying23, rfl, by kernel_rfl⟩
theorem t30 : AU Tryz.prog 30 11 := ⟨_, Tryz.underlying30, rfl, by kernel_rfl⟩
theorem t28 : AU Tryz.prog 28 2 := ⟨_, Tryz.underlying28, rfl, by kernel_rfl⟩
theorem t25 : AU Tryz.prog 25 2 := ⟨_, Tryz.underlying25, rfl, by kernel_rfl⟩
theorem t4 : SU Tryz.prog 4 := ⟨_, Tryz.underlying4, rfl⟩
theorem t26 : SU Tryz.prog 26 := ⟨_, Tryz.underlying26, rfl⟩
theorem t45 : AU Tryz.prog 45 15 := ⟨_, Tryz.underlying45, rfl, by kernel_rfl⟩
theorem t43 : AU Tryz.prog 43 14 := ⟨_, Tryz.underlying43, rfl, by kernel_rfl⟩
theorem t38 : AU Tryz.prog 38 6 := ⟨_, Tryz.underlying38, rfl, by kernel_rfl⟩
theorem t32 : SU Tryz.prog 32 := ⟨_, Tryz.underlying32, rfl⟩
theorem t112 : SU Tryz.prog 112 := ⟨_, Tryz.underlying112, rfl⟩
theorem t72 : AU Tryz.prog 72 2 := ⟨_, Tryz.underlying72, rfl, by kernel_rfl⟩
theorem t63 : SU Tryz.prog 63 := ⟨_, Tryz.underlying63, rfl⟩
theorem t51 : SU Tryz.prog 51 := ⟨_, Tryz.underlying51, rfl⟩
theorem t9 : SU Tryz.prog 9 := ⟨_, Tryz.underlying9, rfl⟩
theorem t140 : AU Tryz.prog 140 2 := ⟨_, Tryz.underlying140, rfl, by kernel_rfl⟩
theorem t207 : SU Tryz.prog 207 := ⟨_, Tryz.underlying207, rfl⟩
theorem t56 : SU Tryz.prog 56 := ⟨_, Tryz.underlying56, rfl⟩
theorem t41 : AU Tryz.prog 41 5 := ⟨_, Tryz.underlying41, rfl, by kernel_rfl⟩
theorem t120 : AU Tryz.prog 120 2 := ⟨_, Tryz.underlying120, rfl, by kernel_rfl⟩
theorem t206 : SU Tryz.prog 206 := ⟨_, Tryz.underlying206, rfl⟩
theorem t65 : AU Tryz.prog 65 13 := ⟨_, Tryz.underlying65, rfl, by kernel_rfl⟩
theorem t75 : AU Tryz.prog 75 3 := ⟨_, Tryz.underlying75, rfl, by kernel_rfl⟩
section
variable {P : Program} {ops : Array Oper} {rest : List Oper} {o : Oper} {a : Act} {Q : Exit → Act → World → Prop} {M A : Nat → Prop} {w W : World} {bl bl' : List (Nat × Obj)} {p : World → Prop} {v : Value} {ty e : TypeId} {x y : Operand} {g j n : Nat} {cs old : Array Value} {vs : List Value}
theorem gL (_ho : o.op = .load ty x) (h : wpList P ops Q (o :: rest) a W) : wpList P ops Q (o :: rest) a W := h
theorem gS (_ho : o.op = .store ty x y) (h : wpList P ops Q (o :: rest) a W) : wpList P ops Q (o :: rest) a W := h
def LoadR (P : Program) (o : Oper) (a : Act) (bl : List (Nat × Obj)) (v : Value) : Prop := ∃ ty x g j e cs bl', o.op = .load ty x ∧ a.eval x = .pointer (some ⟨g, j, none⟩) ∧ At bl g (.cells cs e (0, 0)) (.cells cs e (0, 0)) bl' ∧
  ((SU P ty ∧ cs[j]? = some v) ∨ ∃ n vs, AU P ty n ∧ (cs.toList.drop j).take n = vs ∧ n = vs.length ∧ v = .agg vs.toArray)
theorem loadS (ho : o.op = .load ty x) (ht : SU P ty) (hx : a.eval x = .pointer (some ⟨g, j, none⟩)) (ha : At bl g (.cells cs e (0, 0)) (.cells cs e (0, 0)) bl') (hc : cs[j]? = some v) : LoadR P o a bl v := ⟨_, _, _, _, _, _, _, ho, hx, ha, .inl ⟨ht, hc⟩⟩
theorem loadA (ho : o.op = .load ty x) (ht : AU P ty n) (hx : a.eval x = .pointer (some ⟨g, j, none⟩)) (ha : At bl g (.cells cs e (0, 0)) (.cells cs e (0, 0)) bl') (hv : (cs.toList.drop j).take n = vs) (hn : n = vs.length) : LoadR P o a bl (.agg vs.toArray) := ⟨_, _, _, _, _, _, _, ho, hx, ha, .inr ⟨_, _, ht, hv, hn, rfl⟩⟩
theorem xL (H : Fr M A w W bl p) (h : wpList P ops Q rest (a.put o.dst v) W)
    (hr : LoadR P o a bl v := by first
      | exact loadS (by exact rfl) (by first | with_reducible exact t3 | with_reducible exact t4 | with_reducible exact t26 | with_reducible exact t32 | with_reducible exact t112 | with_reducible exact t63 | with_reducible exact t51 | with_reducible exact t9 | with_reducible exact t207 | with_reducible exact t56 | with_reducible exact t206) (by exact rfl) (by repeat (first | exact At.head | apply At.tail)) (by (simp only [List.getElem?_toArray, List.getElem?_cons_succ, List.getElem?_cons_zero]; rfl))
      | exact loadA (by exact rfl) (by first | with_reducible exact t23 | with_reducible exact t30 | with_reducible exact t28 | with_reducible exact t25 | with_reducible exact t45 | with_reducible exact t43 | with_reducible exact t38 | with_reducible exact t72 | with_reducible exact t140 | with_reducible exact t41 | with_reducible exact t120 | with_reducible exact t65 | with_reducible exact t75) (by exact rfl) (by repeat (first | exact At.head | apply At.tail)) (by (simp only [List.toList_toArray, List.drop_succ_cons, List.drop_zero, List.take_succ_cons, List.take_zero]; rfl)) (by rfl)) (hgd : o.guard = none := by exact rfl) : wpList P ops Q (o :: rest) a W := by
  obtain ⟨ty, x, g, j, e, cs, bl', ho, hx, ha, ⟨⟨d, hu, hd⟩, hc⟩ | ⟨n, vs, ⟨d, hu, hd, hi⟩, hv, hn, rfl⟩⟩ := hr
  · exact fr_get H ho hgd hx ha hu (by cases d <;> exact hd) hc h
  · exact fr_sub H ho hgd hx ha hu (by cases d <;> exact hd) hi hv hn h
def StoreR (P : Program) (o : Oper) (a : Act) (bl bl' : List (Nat × Obj)) : Prop := ∃ t x y g j e old cs u, o.op = .store t x y ∧ a.eval x = .pointer (some ⟨g, j, none⟩) ∧ a.eval y = u ∧ At bl g (.cells old e (0, 0)) (.cells cs e (0, 0)) bl' ∧ j + u.cells.size ≤ old.size ∧ cs.toList = old.toList.take j ++ u.cells.toList ++ old.toList.drop (j + u.cells.size) ∧ (P.info? t).map (·.size) = some u.cells.size ∧ ∀ q ∈ u.cells.toList, q.oneCell' = true
theorem storeP {t : TypeId} (ho : o.op = .store t x y) (hp : a.eval x = .pointer (some ⟨g, 0, none⟩)) (hv : a.eval y = .agg cs) (ha : At bl g (.cells old e (0, 0)) (.cells cs e (0, 0)) bl') (hs : cs.size = old.size) (ht : (P.info? t).map (·.size) = some cs.size) (h1 : ∀ q ∈ cs.toList, q.oneCell' = true) : StoreR P o a bl bl' :=
  ⟨_, _, _, _, _, _, _, _, _, ho, hp, hv, ha, by show 0 + cs.size ≤ _; omega, by show _ = _ ++ cs.toList ++ List.drop (0 + cs.size) _; rw [List.take_zero, List.nil_append, List.drop_eq_nil_of_le (by rw [Array.length_toList]; omega), List.append_nil], ht, h1⟩
theorem storeS {t : TypeId} {u : Value} (ho : o.op = .store t x y) (hp : a.eval x = .pointer (some ⟨g, j, none⟩)) (hv : a.eval y = u) (ha : At bl g (.cells old e (0, 0)) (.cells cs e (0, 0)) bl') (hs : j + u.cells.size ≤ old.size) (hcs : cs.toList = old.toList.take j ++ u.cells.toList ++ old.toList.drop (j + u.cells.size)) (ht : (P.info? t).map (·.size) = some u.cells.size) (h1 : ∀ q ∈ u.cells.toList, q.oneCell' = true) : StoreR P o a bl bl' :=
  ⟨_, _, _, _, _, _, _, _, _, ho, hp, hv, ha, hs, hcs, ht, h1⟩
theorem xS (H : Fr M A w W bl p) (h : ∀ w1, Fr M A w w1 bl' p → wpList P ops Q rest a w1)
    (hr : StoreR P o a bl bl' := by first
      | exact storeP (by exact rfl) (by exact rfl) (by exact rfl) (by repeat (first | exact At.head | apply At.tail)) (by rfl) (by kernel_rfl) (by simp [Value.oneCell'])
      | exact storeS (by exact rfl) (by exact rfl) (by first | exact (rfl : _ = Value.int _ _) | exact (rfl : _ = Value.bool _) | exact (rfl : _ = Value.slice _ _ _) | exact (rfl : _ = Value.agg (List.toArray _)) | exact (rfl : _ = Value.pointer _) | exact (rfl : _ = Value.string _) | exact (rfl : _ = Value.map _)) (by repeat (first | exact At.head | apply At.tail)) (by exact Nat.le_of_ble_eq_true rfl) (by (simp only [Value.cells, List.take_succ_cons, List.take_zero, List.drop_succ_cons, List.drop_zero, List.cons_append, List.nil_append, List.size_toArray, List.length_cons, List.length_nil, Nat.reduceAdd, List.append_nil, List.drop_nil, List.take_nil, List.toList_toArray]; rfl)) (by kernel_rfl) (by simp [Value.cells, Value.oneCell'])) (hgd : o.guard = none := by exact rfl) (hN : o.dst = none := by exact rfl) : wpList P ops Q (o :: rest) a W := by
  obtain ⟨t, x, y, g, j, e, old, cs, u, ho, hp, hv, ha, hs, hcs, ht, h1⟩ := hr
  exact fr_set H ho hN hgd hp hv ha hs hcs ht h1 h
def BoxR (o : Oper) (a : Act) (t : TypeId) (cs : Array Value) : Prop := ∃ x, o.op = .box t x ∧ (a.eval x = .agg cs ∨ ∃ v, a.eval x = v ∧ v.cells = #[v] ∧ cs = #[v])
theorem boxA {t : TypeId} (ho : o.op = .box t x) (hx : a.eval x = .agg cs) : BoxR o a t cs := ⟨_, ho, .inl hx⟩
theorem boxS {t : TypeId} (ho : o.op = .box t x) (hx : a.eval x = v) (hv : v.cells = #[v]) : BoxR o a t #[v] := ⟨_, ho, .inr ⟨_, hx, hv, rfl⟩⟩
theorem nB {t : TypeId} (H : Fr M A w W bl p) (h : ∀ g w1, Fr M A w w1 ((g, .cells cs t (0, 0)) :: bl) p → wpList P ops Q rest (a.put o.dst (.pointer (some ⟨g, 0, none⟩))) w1)
    (hr : BoxR o a t cs := by first | exact boxA (by exact rfl) (by exact rfl) | exact boxS (by exact rfl) (by exact rfl) (by exact rfl)) (hgd : o.guard = none := by exact rfl) : wpList P ops Q (o :: rest) a W := by
  obtain ⟨x, ho, hx | ⟨v, hx, hv, rfl⟩⟩ := hr
  · exact fr_box H ho hgd hx h
  · exact fr_box1 H ho hgd hx hv h
theorem nA (cs : Array Value) (t : TypeId) (H : Fr M A w W bl p) (h : ∀ g w1, Fr M A w w1 ((g, .cells cs t (0, 0)) :: bl) p → wpList P ops Q rest (a.put o.dst (.pointer (some ⟨g, 0, none⟩))) w1)
    (hr : (execOp a.eval o).run P W = .ok (.value (.pointer (some ⟨W.heap.size, 0, none⟩))) (W.alloc (.cells cs t (0, 0))) := by first | (go_simp; done) | (go_simp; rfl)) {N : Tmp} (hd : o.dst = some N := by exact rfl) (hgd : o.guard = none := by exact rfl) : wpList P ops Q (o :: rest) a W := fr_new H hd hgd hr h
theorem nR {t : TypeId} (H : Fr M A w W bl p) (h : ∀ g w1, Fr M A w w1 ((g, .cells cs t (0, 0)) :: bl) p → wpList P ops Q rest (a.put o.dst (.slice (some ⟨g, 0, none⟩) n n)) w1)
    (hr : ∀ K : Result Next → Prop, Hid (K (.ok (.value (.slice (some ⟨W.heap.size, 0, none⟩) n n)) (W.alloc (.cells cs t (0, 0))))) → K ((execOp a.eval o).run P W) := by intro K hK; go_simp; exact hK.out) {N : Tmp} (hd : o.dst = some N := by exact rfl) (hgd : o.guard = none := by exact rfl) : wpList P ops Q (o :: rest) a W := fr_rowv H hd hgd hr h
theorem nF (v : Value) (h : wpList P ops Q rest (a.put o.dst v) W)
    (hr : ∀ W (K : Result Next → Prop), Hid (K (.ok (.value v) W)) → K ((execOp a.eval o).run P W) := by intro W K hK; go_simp; exact hK.out) {N : Tmp} (hd : o.dst = some N := by exact rfl) (hgd : o.guard = none := by exact rfl) : wpList P ops Q (o :: rest) a W := fr_pure hd hgd hr h
end
section
variable {P : Program} {ops : Array Oper} {C : World → Prop} {Q : Act → Facts → Prop} {k : Nat} {o : Oper} {rest : List Oper} {a : Act} {F : Facts} {v : Value} {bl bl' : List (Nat × Obj)} {p : World → Prop}
theorem yL (HR : ∀ W, C W → Rd bl p W) (h : wpO P ops C Q (k + 1) rest (a.put o.dst v) F)
    (hr : LoadR P o a bl v := by first
      | exact loadS (by exact rfl) (by first | with_reducible exact t3 | with_reducible exact t4 | with_reducible exact t26 | with_reducible exact t32 | with_reducible exact t112 | with_reducible exact t63 | with_reducible exact t51 | with_reducible exact t9 | with_reducible exact t207 | with_reducible exact t56 | with_reducible exact t206) (by rfl) (by repeat (first | exact At.head | apply At.tail)) (by (simp only [List.getElem?_toArray, List.getElem?_cons_succ, List.getElem?_cons_zero]; rfl))
      | exact loadA (by exact rfl) (by first | with_reducible exact t23 | with_reducible exact t30 | with_reducible exact t28 | with_reducible exact t25 | with_reducible exact t45 | with_reducible exact t43 | with_reducible exact t38 | with_reducible exact t72 | with_reducible exact t140 | with_reducible exact t41 | with_reducible exact t120 | with_reducible exact t65 | with_reducible exact t75) (by rfl) (by repeat (first | exact At.head | apply At.tail)) (by (simp only [List.toList_toArray, List.drop_succ_cons, List.drop_zero, List.take_succ_cons, List.take_zero]; rfl)) (by rfl)) (hw : Region.wanted o (yielded ops a.tmps) = true := by rfl) : wpO P ops C Q k (o :: rest) a F := by
  obtain ⟨ty, x, g, j, e, cs, bl', ho, hx, ha, ⟨⟨d, hu, hd⟩, hc⟩ | ⟨n, vs, ⟨d, hu, hd, hi⟩, hv, hn, rfl⟩⟩ := hr
  · exact ko_get HR ho hw hx ha hu (by cases d <;> exact hd) hc h
  · exact ko_sub HR ho hw hx ha hu (by cases d <;> exact hd) hi hv hn h
theorem yS {t e : TypeId} {x y : Operand} {q g j : Nat} {cs cs' : Array Value} {u : Value} {l0 l' : List (Nat × Nat × TypeId × Array Value)}
    (h : wpO P ops C Q (k + 1) rest a { F with var := l', log := (g, j, u.cells.toList.length) :: F.log })
    (ho : o.op = .store t x y := by exact rfl) (hN : o.dst = none := by exact rfl) (hw : Region.wanted o (yielded ops a.tmps) = true := by rfl) (hx : a.eval x = .pointer (some ⟨g, j, none⟩) := by rfl)
    (hv : a.eval y = u := by first | exact (rfl : _ = Value.int _ _) | exact (rfl : _ = Value.bool _) | exact (rfl : _ = Value.slice _ _ _) | exact (rfl : _ = Value.agg (List.toArray _)) | exact (rfl : _ = Value.pointer _) | exact (rfl : _ = Value.string _) | exact (rfl : _ = Value.map _)) (ha0 : VarAt F.var q g e cs cs l0 := by repeat (first | exact VarAt.head | apply VarAt.tail)) (hq : depV ops k q = true := by kernel_rfl) (hs : j + u.cells.toList.length ≤ cs.size := by exact Nat.le_of_ble_eq_true rfl)
    (hcs : cs'.toList = cs.toList.take j ++ u.cells.toList ++ cs.toList.drop (j + u.cells.toList.length) := by (simp only [Value.cells, List.take_succ_cons, List.take_zero, List.drop_succ_cons, List.drop_zero, List.cons_append, List.nil_append, List.length_cons, List.length_nil, Nat.reduceAdd, List.append_nil, List.drop_nil, List.take_nil]; rfl))
    (ha : VarAt F.var q g e cs cs' l' := by repeat (first | exact VarAt.head | apply VarAt.tail)) (hl : ∀ q, q ∈ F.log → apartR q (g, j, u.cells.toList.length) := by simp [apartR, Value.cells]) (ht : (P.info? t).map (·.size) = some u.cells.size := by kernel_rfl) (h1 : ∀ q ∈ u.cells.toList, q.oneCell' = true := by simp [Value.cells, Value.oneCell']) : wpO P ops C Q k (o :: rest) a F := ko_put ho hN hw hx hv ha0 hq hs hcs ha hl ht h1 h
theorem yV {t : TypeId} {cs : Array Value} (h : ∀ x, wpO P ops C Q (k + 1) rest (a.put o.dst (.pointer (some ⟨x, 0, none⟩))) { F with var := (k, x, t, cs) :: F.var })
    (hk : kindO o = 2 := by exact rfl) (hw : Region.wanted o (yielded ops a.tmps) = true := by rfl) (hy : ∀ W (K : Result Next → Prop), Hid (K (.ok (.value (.pointer (some ⟨W.heap.size, 0, none⟩))) (W.alloc (.cells cs t (0, 0))))) → K ((execOp a.eval o).run P W) := by intro W K hK; go_simp; exact hK.out) : wpO P ops C Q k (o :: rest) a F := ko_var hk hw hy h
theorem yR {n : Nat} {ob : Obj} (h : ∀ x, wpO P ops C Q (k + 1) rest (a.put o.dst (.slice (some ⟨x, 0, none⟩) n n)) { F with fro := (k, x, ob) :: F.fro })
    (hk : kindO o = 0 := by exact rfl) (hw : Region.wanted o (yielded ops a.tmps) = true := by rfl) (hy : ∀ W (K : Result Next → Prop), Hid (K (.ok (.value (.slice (some ⟨W.heap.size, 0, none⟩) n n)) (W.alloc ob))) → K ((execOp a.eval o).run P W) := by intro W K hK; go_simp; exact hK.out) : wpO P ops C Q k (o :: rest) a F := ko_row hk hw hy h
theorem yP (h : wpO P ops C Q (k + 1) rest (a.put o.dst v) F)
    (hk : kindO o = 0 := by exact rfl) (hw : Region.wanted o (yielded ops a.tmps) = true := by rfl) (hy : ∀ W (K : Result Next → Prop), Hid (K (.ok (.value v) W)) → K ((execOp a.eval o).run P W) := by intro W K hK; go_simp; exact hK.out) : wpO P ops C Q k (o :: rest) a F := ko_pure hk hw hy h
theorem yO (h : wpO P ops C Q (k + 1) rest (a.put o.dst undef) F) (hw : Region.wanted o (yielded ops a.tmps) = false := by rfl) : wpO P ops C Q k (o :: rest) a F := ko_off hw h
theorem yC (f : FuncId) {fn : Func} (hf : P.funcs[f]? = some fn) {args : Array Value} {os : Array Operand} {ts : Array TypeId} (hc : ∀ W, C W → depH ops k F W → Calls P f args W fun e w' => e = .returned v ∧ Below W.heap.size W w')
    (h : wpO P ops C Q (k + 1) rest (a.put o.dst v) F)
    (hop : o.op = .call { callee := .value (.func f), args := os, argTypes := ts } := by exact rfl) (hw : Region.wanted o (yielded ops a.tmps) = true := by rfl) (hname : (fn.name == "runtime.NumGoroutine") = false := by kernel_rfl) (hb : fn.body.isSome = true := by exact rfl) (hi : P.inits.idxOf? f = none := by kernel_rfl)
    (hargs : os.map a.eval = args := by (simp only [List.map_toArray, List.map_cons, List.map_nil]; rfl)) : wpO P ops C Q k (o :: rest) a F := ko_call f args hop hw hf hname hb hi hargs hc h
end
section
variable {P : Program} {ops : Array Oper} {Q : Exit → Act → World → Prop} {ds : List Nat} {n i : Nat} {dn : List Nat} {a : Act} {w W : World} {o : Oper} {rest : List (Nat × Oper)} {v : Value} {M A : Nat → Prop} {bl bl' : List (Nat × Obj)} {p : World → Prop}
theorem zL (H : Fr M A w W bl p) (h : RO P ops Q (Frs M A w bl p) ds n (i :: dn) rest (a.put o.dst v) W)
    (hr : LoadR P o a bl v := by first
      | exact loadS (by exact rfl) (by first | with_reducible exact t3 | with_reducible exact t4 | with_reducible exact t26 | with_reducible exact t32 | with_reducible exact t112 | with_reducible exact t63 | with_reducible exact t51 | with_reducible exact t9 | with_reducible exact t207 | with_reducible exact t56 | with_reducible exact t206) (by rfl) (by repeat (first | exact At.head | apply At.tail)) (by (simp only [List.getElem?_toArray, List.getElem?_cons_succ, List.getElem?_cons_zero]; rfl))
      | exact loadA (by exact rfl) (by first | with_reducible exact t23 | with_reducible exact t30 | with_reducible exact t28 | with_reducible exact t25 | with_reducible exact t45 | with_reducible exact t43 | with_reducible exact t38 | with_reducible exact t72 | with_reducible exact t140 | with_reducible exact t41 | with_reducible exact t120 | with_reducible exact t65 | with_reducible exact t75) (by rfl) (by repeat (first | exact At.head | apply At.tail)) (by (simp only [List.toList_toArray, List.drop_succ_cons, List.drop_zero, List.take_succ_cons, List.take_zero]; rfl)) (by rfl)) (hw : Region.wanted o (yielded ops a.tmps) = true := by rfl)
    (hc : takeB .any ops ds (mk n dn) (mk n (i :: dn)) i = true := by kernel_rfl) (hQ : ∀ c a w, Q (.panic c) (a.put o.dst v) w → Q (.panic c) a w := by exact fun _ _ _ h => h) : RO P ops Q (Frs M A w bl p) ds n dn ((i, o) :: rest) a W := by
  obtain ⟨ty, x, g, j, e, cs, bl', ho, hx, ha, ⟨⟨d, hu, hd⟩, hcc⟩ | ⟨n', vs, ⟨d, hu, hd, hi⟩, hv, hn, rfl⟩⟩ := hr
  · exact ro_get H ho hc hQ hw hx ha hu (by cases d <;> exact hd) hcc h
  · exact ro_sub H ho hc hQ hw hx ha hu (by cases d <;> exact hd) hi hv hn h
end
section
variable {P : Program} {ops : Array Oper} {Q : Exit → Act → World → Prop} {S : World → Prop} {ds : List Nat} {n i : Nat} {dn : List Nat} {a : Act} {W : World} {o : Oper} {rest : List (Nat × Oper)} {v : Value} {M0 A0 : Nat → Prop} {w0 : World} {bl0 bl' : List (Nat × Obj)} {p0 : World → Prop}
theorem zS (H : Fr M0 A0 w0 W bl0 p0) (h : ∀ w1, Fr M0 A0 w0 w1 bl' p0 → RO P ops Q S ds n (i :: dn) rest a w1)
    (hr : StoreR P o a bl0 bl' := by exact storeS (by exact rfl) (by rfl) (by first | exact (rfl : _ = Value.int _ _) | exact (rfl : _ = Value.bool _) | exact (rfl : _ = Value.slice _ _ _) | exact (rfl : _ = Value.agg (List.toArray _)) | exact (rfl : _ = Value.pointer _) | exact (rfl : _ = Value.string _) | exact (rfl : _ = Value.map _)) (by repeat (first | exact At.head | apply At.tail)) (by exact Nat.le_of_ble_eq_true rfl) (by (simp only [Value.cells, List.take_succ_cons, List.take_zero, List.drop_succ_cons, List.drop_zero, List.cons_append, List.nil_append, List.size_toArray, List.length_cons, List.length_nil, Nat.reduceAdd, List.append_nil, List.drop_nil, List.take_nil, List.toList_toArray]; rfl)) (by kernel_rfl) (by simp [Value.cells, Value.oneCell']))
    (hN : o.dst = none := by exact rfl) (hc : readyB .any ops (mk n dn) (mk n (i :: dn)) i = true := by kernel_rfl) (hd : ds.contains i = true := by kernel_rfl) (hw : Region.wanted o (yielded ops a.tmps) = true := by rfl) : RO P ops Q S ds n dn ((i, o) :: rest) a W := by
  obtain ⟨t, x, y, g, j, e, old, cs, u, ho, hp, hv, ha, hs, hcs, ht, h1⟩ := hr
  exact ro_set H ho hN hc hd hw hp hv ha hs hcs ht h1 h
theorem zB {t : TypeId} {x : Operand} {cs : Array Value} (H : Fr M0 A0 w0 W bl0 p0) (h : ∀ g w1, W.heap.size ≤ g → Fr M0 A0 w0 w1 ((g, .cells cs t (0, 0)) :: bl0) p0 → RO P ops Q S ds n (i :: dn) rest (a.put o.dst (.pointer (some ⟨g, 0, none⟩))) w1)
    (ho : o.op = .box t x := by exact rfl) (hx : a.eval x = .agg cs := by rfl) (hc : readyB .any ops (mk n dn) (mk n (i :: dn)) i = true := by kernel_rfl) (hd : ds.contains i = true := by kernel_rfl) (hw : Region.wanted o (yielded ops a.tmps) = true := by rfl) : RO P ops Q S ds n dn ((i, o) :: rest) a W := ro_box H ho hc hd hw hx h
theorem zR {m : Nat} {cs : Array Value} {t : TypeId} (H : Fr M0 A0 w0 W bl0 p0) (h : ∀ g w1, w1.heap[g]? = some (.cells cs t (0, 0)) → Fr M0 A0 w0 w1 bl0 p0 → RO P ops Q (Frs M0 A0 w0 bl0 p0) ds n (i :: dn) rest (a.put o.dst (.slice (some ⟨g, 0, none⟩) m m)) w1)
    (hr : ∀ K : Result Next → Prop, Hid (K (.ok (.value (.slice (some ⟨W.heap.size, 0, none⟩) m m)) (W.alloc (.cells cs t (0, 0))))) → K ((execOp a.eval o).run P W) := by intro K hK; go_simp; exact hK.out) (hc : readyB .any ops (mk n dn) (mk n (i :: dn)) i = true := by kernel_rfl) (hd : ds.contains i = false := by kernel_rfl) (hw : Region.wanted o (yielded ops a.tmps) = true := by rfl) : RO P ops Q (Frs M0 A0 w0 bl0 p0) ds n dn ((i, o) :: rest) a W := ro_row H hc hd hw hr h
theorem zP (h : RO P ops Q S ds n (i :: dn) rest (a.put o.dst v) W) (hy : ∀ w (K : Result Next → Prop), Hid (K (.ok (.value v) w)) → K ((execOp a.eval o).run P w) := by intro W K hK; go_simp; exact hK.out)
    (hw : Region.wanted o (yielded ops a.tmps) = true := by rfl) (hc : anyB .any ops (mk n dn) (mk n (i :: dn)) i = true := by kernel_rfl) (hQ : ∀ c a w, Q (.panic c) (a.put o.dst v) w → Q (.panic c) a w := by exact fun _ _ _ h => h) : RO P ops Q S ds n dn ((i, o) :: rest) a W := ro_pure hc hQ hw hy h
theorem zO (h : RO P ops Q S ds n (i :: dn) rest (a.put o.dst undef) W)
    (hw : Region.wanted o (yielded ops a.tmps) = false := by rfl) (hc : anyB .any ops (mk n dn) (mk n (i :: dn)) i = true := by kernel_rfl) (hQ : ∀ c a w, Q (.panic c) (a.put o.dst undef) w → Q (.panic c) a w := by exact fun _ _ _ h => h) : RO P ops Q S ds n dn ((i, o) :: rest) a W := ro_off hc hQ hw h
end
end Go.Proofs.YtdaohldmojpihaaGreatDoorAy

namespace Go.Proofs.YtdaohldmojpihaaGreatDoorW.PrintLast
open Go.Proofs.YtdaohldmojpihaaGreatDoorW.PrintWords (Aside0)
def needsOf (md : Region.Mode) (o : Oper) : List Nat := (o.after.toList.filter (fun e => Region.binds md e)).map (fun e => e.on)
def clashOf (md : Region.Mode) (ops : Array Oper) (i : Nat) (oi : Oper) : List Nat := (List.range ops.size).filter fun j => !(j == i) && match ops[j]? with
  | some oj => !(oj.after.any (fun e => Region.binds md e && e.on == i) || oi.apart ops oj)
  | none => false
def rtab (md : Region.Mode) (ops : Array Oper) : Bool × List (List Nat × List Nat) := (Region.noSelect ops, (List.range ops.size).map fun i => match ops[i]? with
  | some o => (needsOf md o, clashOf md ops i o)
  | none => ([], []))
def readyAt (T : List (List Nat × List Nat)) (l : List Bool) (i : Nat) : Bool := !l.getD i true && match T[i]? with
  | some r => r.1.all (fun j => l.getD j false)
  | none => false
def readyT (T : List (List Nat × List Nat)) (l : List Bool) : List Nat := (List.range T.length).filter (readyAt T l)
def freeT (T : List (List Nat × List Nat)) (l : List Bool) (i : Nat) : Bool := match T[i]? with
  | some r => r.2.all (fun j => l.getD j true)
  | none => false
def closedT (T : List (List Nat × List Nat)) (l : List Bool) : Bool := (List.range T.length).all fun j => !l.getD j false || match T[j]? with
  | some r => r.1.all (fun k => l.getD k false)
  | none => true
def reachT (T : List (List Nat × List Nat)) (i : Nat) : Nat → Nat → Bool
  | 0, _ => false
  | fuel + 1, d => match T[d]? with
    | some r => r.1.any fun j => j == i || reachT T i fuel j
    | none => false
def lastT (T : List (List Nat × List Nat)) (l : List Bool) (ds : List Nat) (i : Nat) : Bool := ds.all fun d => l.getD d true || reachT T i T.length d
section
variable {md : Region.Mode} {ops : Array Oper} {T : Bool × List (List Nat × List Nat)} {l l' li lj lk : Array Bool} {ds : List Nat} {i j k : Nat}
theorem gd (l : Array Bool) (j : Nat) (b : Bool) : l.getD j b = l.toList.getD j b := by simp [Array.getD_eq_getD_getElem?, List.getD_eq_getElem?_getD]
theorem needs_all (o : Oper) (p : Nat → Bool) : o.after.all (fun e => !Region.binds md e || p e.on) = (needsOf md o).all p := by
  unfold needsOf
  rw [← Array.all_toList]
  induction o.after.toList with
  | nil => rfl
  | cons e r ih =>
    rw [List.all_cons, ih, List.filter_cons]
    cases h : Region.binds md e <;> simp
theorem needs_any (o : Oper) (p : Nat → Bool) : o.after.any (fun e => Region.binds md e && p e.on) = (needsOf md o).any p := by
  unfold needsOf
  rw [← Array.any_toList]
  induction o.after.toList with
  | nil => rfl
  | cons e r ih =>
    rw [List.any_cons, ih, List.filter_cons]
    cases h : Region.binds md e <;> simp
theorem rtab_length : (rtab md ops).2.length = ops.size := by simp [rtab]
theorem rtab_some {o : Oper} (h : ops[i]? = some o) : (rtab md ops).2[i]? = some (needsOf md o, clashOf md ops i o) := by
  have hi := (Array.getElem?_eq_some_iff.1 h).1
  unfold rtab
  rw [List.getElem?_map, List.getElem?_range hi, Option.map_some, h]
theorem rtab_none (h : ops[i]? = none) : (rtab md ops).2[i]? = none := by
  have hi : ops.size ≤ i := Array.getElem?_eq_none_iff.1 h
  exact List.getElem?_eq_none (by rw [rtab_length]; exact hi)
theorem readyAt_eq : readyAt (rtab md ops).2 l.toList i = (!l.getD i true && ((ops[i]?).map (·.after.all fun e => !Region.binds md e || l.getD e.on false)).getD false) := by
  unfold readyAt
  rw [gd]
  cases h : ops[i]? with
  | none => rw [rtab_none h]; rfl
  | some o =>
    rw [rtab_some h]
    simp only [Option.map_some, Option.getD_some]
    rw [← needs_all]
    simp only [gd]
theorem ready_eq : Region.ready md ops l = readyT (rtab md ops).2 l.toList := by
  unfold Region.ready readyT
  rw [rtab_length]
  refine List.filter_congr (fun i _ => ?_)
  rw [readyAt_eq]
theorem free_eq : Region.free md ops l i = freeT (rtab md ops).2 l.toList i := by
  unfold Region.free freeT
  cases h : ops[i]? with
  | none => rw [rtab_none h]
  | some oi =>
    rw [rtab_some h]
    simp only [clashOf]
    rw [List.all_filter]
    congr 1
    funext j
    rw [gd]
    cases hj : ops[j]? with
    | none => cases (j == i) <;> cases (l.toList.getD j true) <;> simp
    | some oj =>
      cases (j == i) <;> cases (l.toList.getD j true) <;> cases (oj.after.any (fun e => Region.binds md e && e.on == i) || oi.apart ops oj) <;> simp_all
theorem closed_eq : Region.closedB md ops l = closedT (rtab md ops).2 l.toList := by
  unfold Region.closedB closedT
  rw [rtab_length]
  congr 1
  funext j
  rw [gd]
  cases h : ops[j]? with
  | none => rw [rtab_none h]
  | some o =>
    rw [rtab_some h]
    simp only
    rw [← needs_all]
    simp only [gd]
theorem reach_eq : ∀ (fuel d : Nat), Region.reachB md ops i fuel d = reachT (rtab md ops).2 i fuel d
  | 0, _ => rfl
  | fuel + 1, d => by
    unfold Region.reachB reachT
    cases h : ops[d]? with
    | none => rw [rtab_none h]
    | some o =>
      rw [rtab_some h]
      simp only
      rw [← needs_any]
      congr 1
      funext e
      rw [reach_eq fuel]
theorem last_eq : Region.lastB md ops l ds i = lastT (rtab md ops).2 l.toList ds i := by
  unfold Region.lastB lastT
  rw [rtab_length]
  congr 1
  funext d
  rw [gd, reach_eq]
theorem readyAt_mem (h : readyAt T.2 l.toList i = true) (hT : rtab md ops = T) : (Region.ready md ops l).contains i = true := by
  subst hT
  rw [ready_eq]
  unfold readyT
  rw [List.contains_iff_mem, List.mem_filter, List.mem_range]
  refine ⟨?_, h⟩
  unfold readyAt at h
  rw [Bool.and_eq_true] at h
  cases hq : (rtab md ops).2[i]? with
  | none => rw [hq] at h; simp at h
  | some r => exact (List.getElem?_eq_some_iff.1 hq).1
theorem set_of (h : (l.toList.set i true == l'.toList) = true) : (l.setIfInBounds i true == l') = true := by
  rw [beq_iff_eq] at h ⊢
  apply Array.ext'
  rw [Array.toList_setIfInBounds]
  exact h
def anyT (T : Bool × List (List Nat × List Nat)) (l l' : List Bool) (i : Nat) : Bool := T.1 && freeT T.2 l i && readyAt T.2 l i && (l.set i true == l')
theorem any_of (hT : rtab md ops = T) (h : anyT T l.toList l'.toList i = true) : anyB md ops l l' i = true := by
  simp only [anyT, Bool.and_eq_true] at h
  obtain ⟨⟨⟨h1, h2⟩, h3⟩, h4⟩ := h
  have h5 := readyAt_mem h3 hT
  have h6 := set_of h4
  subst hT
  simp only [anyB, Bool.and_eq_true]
  exact ⟨⟨⟨h1, by rw [free_eq]; exact h2⟩, h5⟩, h6⟩
def takeT (T : Bool × List (List Nat × List Nat)) (ds : List Nat) (l l' : List Bool) (i : Nat) : Bool := T.1 && freeT T.2 l i && readyAt T.2 l i && closedT T.2 l && lastT T.2 l ds i && (l.set i true == l')
theorem take_of (hT : rtab md ops = T) (h : takeT T ds l.toList l'.toList i = true) : takeB md ops ds l l' i = true := by
  simp only [takeT, Bool.and_eq_true] at h
  obtain ⟨⟨⟨⟨⟨h1, h2⟩, h3⟩, h4⟩, h5⟩, h6⟩ := h
  have h7 := readyAt_mem h3 hT
  have h8 := set_of h6
  subst hT
  simp only [takeB, Bool.and_eq_true]
  exact ⟨⟨⟨⟨⟨h1, by rw [free_eq]; exact h2⟩, h7⟩, by rw [closed_eq]; exact h4⟩, by rw [last_eq]; exact h5⟩, h8⟩
theorem one_of (hT : rtab md ops = T) (h : (readyT T.2 l.toList == [i] && l.toList.set i true == l'.toList) = true) : readyB md ops l l' i = true := by
  simp only [Bool.and_eq_true] at h
  obtain ⟨h1, h2⟩ := h
  subst hT
  simp only [readyB, Bool.and_eq_true]
  exact ⟨by rw [ready_eq]; exact h1, set_of h2⟩
theorem two_of (hT : rtab md ops = T) (h : (readyT T.2 l.toList == [i, j] && l.toList.set i true == li.toList && l.toList.set j true == lj.toList) = true) : (Region.ready md ops l == [i, j] && l.setIfInBounds i true == li && l.setIfInBounds j true == lj) = true := by
  simp only [Bool.and_eq_true] at h ⊢
  obtain ⟨⟨h1, h2⟩, h3⟩ := h
  subst hT
  exact ⟨⟨by rw [ready_eq]; exact h1, set_of h2⟩, set_of h3⟩
theorem done_of (hT : rtab md ops = T) (h : (readyT T.2 l.toList == []) = true) : (Region.ready md ops l == []) = true := by
  subst hT
  rw [ready_eq]
  exact h
def upM (B : List Nat) (d : Nat) : List Nat → Nat
  | [] => 0
  | n :: r => (2 ^ n ||| (if n < d then B.getD n 0 else 0)) ||| upM B d r
def waitsOk (T : List (List Nat × List Nat)) (B : List Nat) : Bool := (List.range T.length).all fun d => match T[d]? with
  | some r => (B.getD d 0 ||| upM B d r.1) == upM B d r.1
  | none => false
theorem upM_bit {B : List Nat} {d i : Nat} : ∀ {ns : List Nat}, (upM B d ns).testBit i = true → ∃ n ∈ ns, n = i ∨ (n < d ∧ (B.getD n 0).testBit i = true)
  | [], h => by simp [upM] at h
  | n :: r, h => by
    unfold upM at h
    rw [Nat.testBit_or, Nat.testBit_or, Bool.or_eq_true, Bool.or_eq_true] at h
    rcases h with (h | h) | h
    · rw [Nat.testBit_two_pow] at h
      exact ⟨n, List.mem_cons_self, .inl (by simpa using h)⟩
    · by_cases hn : n < d
      · rw [if_pos hn] at h
        exact ⟨n, List.mem_cons_self, .inr ⟨hn, h⟩⟩
      · rw [if_neg hn] at h
        simp at h
    · obtain ⟨m, hm, h2⟩ := upM_bit h
      exact ⟨m, List.mem_cons_of_mem _ hm, h2⟩
theorem reach_bit {T : List (List Nat × List Nat)} {B : List Nat} (hB : waitsOk T B = true) : ∀ (fuel d : Nat), d < fuel → d < T.length → (B.getD d 0).testBit i = true → reachT T i fuel d = true
  | 0, d, h, _, _ => by omega
  | fuel + 1, d, h, hd, hb => by
    have h1 := List.all_eq_true.1 hB d (List.mem_range.2 hd)
    cases hr : T[d]? with
    | none => rw [hr] at h1; simp at h1
    | some r =>
      rw [hr] at h1
      simp only [beq_iff_eq] at h1
      have h2 : (upM B d r.1).testBit i = true := by rw [← h1, Nat.testBit_or, hb, Bool.true_or]
      obtain ⟨n, hn, h3⟩ := upM_bit h2
      unfold reachT
      rw [hr]
      simp only
      rw [List.any_eq_true]
      refine ⟨n, hn, ?_⟩
      rcases h3 with rfl | ⟨h4, h5⟩
      · simp
      · rw [reach_bit hB fuel n (by omega) (by omega) h5, Bool.or_true]
def lastW (T : List (List Nat × List Nat)) (B : List Nat) (l : List Bool) (ds : List Nat) (i : Nat) : Bool := ds.all fun d => l.getD d true || (decide (d < T.length) && (B.getD d 0).testBit i)
def takeW (T : Bool × List (List Nat × List Nat)) (B : List Nat) (ds : List Nat) (l l' : List Bool) (i : Nat) : Bool := T.1 && freeT T.2 l i && readyAt T.2 l i && closedT T.2 l && lastW T.2 B l ds i && (l.set i true == l')
theorem take_ofW {B : List Nat} (hT : rtab md ops = T) (hB : waitsOk T.2 B = true) (h : takeW T B ds l.toList l'.toList i = true) : takeB md ops ds l l' i = true := by
  refine take_of hT ?_
  simp only [takeW, takeT, Bool.and_eq_true] at h ⊢
  obtain ⟨⟨⟨⟨⟨h1, h2⟩, h3⟩, h4⟩, h5⟩, h6⟩ := h
  refine ⟨⟨⟨⟨⟨h1, h2⟩, h3⟩, h4⟩, ?_⟩, h6⟩
  unfold lastW at h5
  unfold lastT
  rw [List.all_eq_true] at h5 ⊢
  intro d hd
  have h7 := h5 d hd
  rw [Bool.or_eq_true, Bool.and_eq_true, decide_eq_true_eq] at h7
  rcases h7 with h7 | ⟨h8, h9⟩
  · rw [h7, Bool.true_or]
  · rw [reach_bit hB _ d h8 h8 h9, Bool.or_true]
theorem with_tabW {P : Program} {Q : Exit → Act → World → Prop} {S : World → Prop} {n : Nat} {a : Act} {w : World} {B : List Nat} (hT : rtab md ops = T) (hB : waitsOk T.2 B = true) (h : Aside0 (rtab md ops = T) → Aside0 (waitsOk T.2 B = true) → wpAnyLast P md ops Q S ds n l a w) : wpAnyLast P md ops Q S ds n l a w := h ⟨hT⟩ ⟨hB⟩
end
def opsIn : Code → Nat → Option (Array Oper)
  | .region id ops _, k => if id == k then some ops else none
  | .seq a b, k => match opsIn a k with
    | some o => some o
    | none => opsIn b k
  | .cond _ a b, k => match opsIn a k with
    | some o => some o
    | none => opsIn b k
  | .block _ c, k => opsIn c k
  | .loop c, k => opsIn c k
  | .scope c, k => opsIn c k
  | .rangeFunc _ _ a b, k => match opsIn a k with
    | some o => some o
    | none => opsIn b k
  | _, _ => none
def opsOf (f : Func) (k : Nat) : Array Oper := ((f.body.bind fun c => opsIn c k)).getD #[]
end Go.Proofs.YtdaohldmojpihaaGreatDoorW.PrintLast

namespace Go.Proofs.YtdaohldmojpihaaGreatDoorW.PrintLast
section
variable {P : Program} {ops : Array Oper} {Q : Exit → Act → World → Prop} {md : Region.Mode} {S : World → Prop} {ds : List Nat} {T : Bool × List (List Nat × List Nat)}
end
end Go.Proofs.YtdaohldmojpihaaGreatDoorW.PrintLast

namespace Go.Proofs.YtdaohldmojpihaaGreatDoorW.PrintWords
open Go.RowKit
namespace Kd
section
variable {α : Type} {d : Kd α} {W : World} {g n : Nat} {S ok : Nat → Prop} {A : Option Addr} {ad : Addr} {xs : List α}
end
end Kd
end Go.Proofs.YtdaohldmojpihaaGreatDoorW.PrintWords

namespace Go.Proofs.YtdaohldmojpihaaGreatDoorW.PrintWords
open Go.RowKit
section
variable {w w' u : World} {m B g : Nat} {o : Obj} {row : Option Nat} {S : Nat → Prop} {a : Addr} {v : Value}
end
namespace Kd
section
variable {α : Type} {d : Kd α} {e base n m : Nat} {ok : Nat → Prop} {w w' : World} {v : Value} {A : Option Addr} {xs : List α}
end
end Kd
end Go.Proofs.YtdaohldmojpihaaGreatDoorW.PrintWords

namespace Go.Proofs.YtdaohldmojpihaaGreatDoorW.PrintWords
open Go.RowKit
section
variable {P : Program} {d : Nat} {xs ys : Array Value} {f : Field} {fs : List Field} {a b : Value} {r s : Bool} {w : World}
end
end Go.Proofs.YtdaohldmojpihaaGreatDoorW.PrintWords

namespace Go.Proofs.YtdaohldmojpihaaGreatDoorW.PrintWords
theorem Reps.one {α : Type} {R : α → List Value → Prop} {ps : List α} {cs : List Value} {p : α} {v : Value} (hp : R p [v]) (h : Reps R 1 ps cs) : Reps R 1 (p :: ps) (v :: cs) := by
  refine ⟨by simp [h.1], fun j q hq => ?_⟩
  cases j with
  | zero =>
    simp only [List.getElem?_cons_zero, Option.some.injEq] at hq
    subst hq
    simpa using hp
  | succ j =>
    simp only [List.getElem?_cons_succ] at hq
    have h1 := h.2 j q hq
    simpa [Nat.mul_one] using h1
theorem Reps.front {α : Type} {R : α → List Value → Prop} {size : Nat} {ps : List α} {cs c all : List Value} {p : α} (hp : R p c) (hc : c.length = size) (h : Reps R size ps cs) (ha : c ++ cs = all) : Reps R size (p :: ps) all := by
  subst ha
  refine ⟨by rw [List.length_append, hc, h.1, List.length_cons, Nat.succ_mul, Nat.add_comm], fun j q hq => ?_⟩
  cases j with
  | zero =>
    simp only [List.getElem?_cons_zero, Option.some.injEq] at hq
    subst hq
    rw [Nat.zero_mul, List.drop_zero, List.take_append_of_le_length (by omega), List.take_of_length_le (by omega)]
    exact hp
  | succ j =>
    simp only [List.getElem?_cons_succ] at hq
    have h1 := h.2 j q hq
    rw [Nat.succ_mul, List.drop_append, List.drop_of_length_le (by rw [hc]; exact Nat.le_add_left _ _), List.nil_append, hc, Nat.add_sub_cancel]
    exact h1
theorem Reps.c2 {α : Type} {R : α → List Value → Prop} {ps : List α} {cs : List Value} {p : α} {va vb : Value} (hp : R p [va, vb]) (h : Reps R 2 ps cs) : Reps R 2 (p :: ps) (va :: vb :: cs) := Reps.front hp rfl h rfl
theorem Reps.c3 {α : Type} {R : α → List Value → Prop} {ps : List α} {cs : List Value} {p : α} {va vb vc : Value} (hp : R p [va, vb, vc]) (h : Reps R 3 ps cs) : Reps R 3 (p :: ps) (va :: vb :: vc :: cs) := Reps.front hp rfl h rfl
theorem Reps.c4 {α : Type} {R : α → List Value → Prop} {ps : List α} {cs : List Value} {p : α} {va vb vc vd : Value} (hp : R p [va, vb, vc, vd]) (h : Reps R 4 ps cs) : Reps R 4 (p :: ps) (va :: vb :: vc :: vd :: cs) := Reps.front hp rfl h rfl
theorem Reps.c5 {α : Type} {R : α → List Value → Prop} {ps : List α} {cs : List Value} {p : α} {va vb vc vd ve : Value} (hp : R p [va, vb, vc, vd, ve]) (h : Reps R 5 ps cs) : Reps R 5 (p :: ps) (va :: vb :: vc :: vd :: ve :: cs) := Reps.front hp rfl h rfl
theorem Reps.c6 {α : Type} {R : α → List Value → Prop} {ps : List α} {cs : List Value} {p : α} {va vb vc vd ve vf : Value} (hp : R p [va, vb, vc, vd, ve, vf]) (h : Reps R 6 ps cs) : Reps R 6 (p :: ps) (va :: vb :: vc :: vd :: ve :: vf :: cs) := Reps.front hp rfl h rfl
theorem Reps.c7 {α : Type} {R : α → List Value → Prop} {ps : List α} {cs : List Value} {p : α} {va vb vc vd ve vf vg : Value} (hp : R p [va, vb, vc, vd, ve, vf, vg]) (h : Reps R 7 ps cs) : Reps R 7 (p :: ps) (va :: vb :: vc :: vd :: ve :: vf :: vg :: cs) := Reps.front hp rfl h rfl
theorem Reps.c8 {α : Type} {R : α → List Value → Prop} {ps : List α} {cs : List Value} {p : α} {va vb vc vd ve vf vg vh : Value} (hp : R p [va, vb, vc, vd, ve, vf, vg, vh]) (h : Reps R 8 ps cs) : Reps R 8 (p :: ps) (va :: vb :: vc :: vd :: ve :: vf :: vg :: vh :: cs) := Reps.front hp rfl h rfl
theorem Reps.c9 {α : Type} {R : α → List Value → Prop} {ps : List α} {cs : List Value} {p : α} {va vb vc vd ve vf vg vh vi : Value} (hp : R p [va, vb, vc, vd, ve, vf, vg, vh, vi]) (h : Reps R 9 ps cs) : Reps R 9 (p :: ps) (va :: vb :: vc :: vd :: ve :: vf :: vg :: vh :: vi :: cs) := Reps.front hp rfl h rfl
theorem Reps.c10 {α : Type} {R : α → List Value → Prop} {ps : List α} {cs : List Value} {p : α} {va vb vc vd ve vf vg vh vi vj : Value} (hp : R p [va, vb, vc, vd, ve, vf, vg, vh, vi, vj]) (h : Reps R 10 ps cs) : Reps R 10 (p :: ps) (va :: vb :: vc :: vd :: ve :: vf :: vg :: vh :: vi :: vj :: cs) := Reps.front hp rfl h rfl
end Go.Proofs.YtdaohldmojpihaaGreatDoorW.PrintWords

namespace Go.Proofs.YtdaohldmojpihaaGreatDoorW.PrintLast
def up (b : Nat → Bool) (i : Nat) : Nat → Bool := fun j => if j = i then true else b j
section
variable {P : Program} {ops : Array Oper} {Q : Exit → Act → World → Prop} {md : Region.Mode} {T : Bool × List (List Nat × List Nat)} {B : List Nat} {O : List Nat} {b : Nat → Bool} {i j n : Nat}
theorem put_comm {a : Act} {s t : Tmp} {u v : Value} (h : s ≠ t) : (a.put (some s) u).put (some t) v = (a.put (some t) v).put (some s) u := by
  simp only [Act.put]
  rw [Array.setIfInBounds_comm _ _ h]
end
end Go.Proofs.YtdaohldmojpihaaGreatDoorW.PrintLast

namespace Go.Proofs.YtdaohldmojpihaaGreatDoorW.PrintWords
open Go.RowKit
theorem own_apart {v1 v2 : Value} {n : Nat} (hlt : ∀ k, v1.ownBlock = some k → k < n) (hge : ∀ k, v2.ownBlock = some k → n ≤ k) : v1.ownBlock = none ∨ v1.ownBlock ≠ v2.ownBlock := by
  cases h : v1.ownBlock with
  | none => exact .inl rfl
  | some k => exact .inr (fun e => by have := hlt k h; have := hge k e.symm; omega)
end Go.Proofs.YtdaohldmojpihaaGreatDoorW.PrintWords
namespace Go.Proofs.YtdaohldmojpihaaGreatDoorW.PrintLast
section
variable {ops : Array Oper} {a : Act} {o og : Oper} {g : Nat} {t : Tmp} {u : Bool}
end
end Go.Proofs.YtdaohldmojpihaaGreatDoorW.PrintLast

namespace Go.Proofs.YtdaohldmojpihaaGreatDoor.X
open Go.RowKit Go.Proofs.YtdaohldmojpihaaGreatDoorW.PrintWords Go.Proofs.YtdaohldmojpihaaGreatDoorW.PrintLast Go.Proofs.YtdaohldmojpihaaGreatDoorW.PrintMore
attribute [local go_sem] max2_int min2_int max_two min_two max_three min_three max_four min_four   -- for this text's walks alone
set_option linter.unusedVariables false
set_option linter.unusedSimpArgs false
def errW : Option Int → Value
  | none => .nilIface
  | some c => .iface 0 (.int .i64 c)
theorem errW_none : errW none = .nilIface := rfl
theorem errW_some (c : Int) : errW (some c) = .iface 0 (.int .i64 c) := rfl
theorem info3 : (Tryz.prog.info? 3).map (fun i => (i.zero, i.size, i.bytes)) = some (some (.int .i64 0), 1, 8) := by kernel_rfl
structure S25 where
  f0 : Int
  f1 : Int
def z25 : S25 := ⟨(0 : Int), (0 : Int)⟩
def k25 : Kd S25 := Kd.iso (Kd.pair (Kd.int .i64) (Kd.int .i64)) (fun x : S25 => (x.f0, x.f1))
theorem k25_heap : Kd.Heap k25 := Kd.heap_iso _ (Kd.heap_pair (Kd.heap_int .i64) (Kd.heap_int .i64))
theorem k25_open {w : World} {x : S25} {cs : List Value} (h : k25.K w x cs) : cs = [.int .i64 x.f0, .int .i64 x.f1] := by
  obtain ⟨_, _, rfl, rfl, rfl⟩ := h
  exact rfl
theorem k25_mk (w : World) (x : S25)  : k25.K w x [.int .i64 x.f0, .int .i64 x.f1] := ⟨[.int .i64 x.f0], [.int .i64 x.f1], rfl, rfl, rfl⟩
def rd_T25 (xs : List S25) (i : Int) : S25 := xs.getD i.toNat z25
theorem at_T25 {w : World} {A : Option Addr} {n : Nat} {xs : List S25} (h : Kd.C k25 w A n xs) (i : Int) (h0 : 0 ≤ i) (h1 : i < n) : ∃ ad , A = some ad ∧ w.cell? (ad.add (i.toNat * 2)) = some (.int .i64 (rd_T25 xs i).f0) ∧ w.cell? ⟨(ad.add (i.toNat * 2)).block, (ad.add (i.toNat * 2)).off + 1, none⟩ = some (.int .i64 (rd_T25 xs i).f1) := by
  obtain ⟨ad, c, e, _, hK, hc0⟩ := Kd.C_get h z25 i h0 h1
  have hc : ∀ j u, c[j]? = some u → w.cell? (ad.add (i.toNat * 2 + j)) = some u := hc0
  obtain rfl := k25_open hK
  exact ⟨ad, e, hc 0 _ rfl, by rw [← add_field _ _ 1 (by omega)]; exact hc 1 _ rfl⟩
structure S28 where
  f0 : Int
  f1 : Int
def z28 : S28 := ⟨(0 : Int), (0 : Int)⟩
def k28 : Kd S28 := Kd.iso (Kd.pair (Kd.int .i64) (Kd.int .i64)) (fun x : S28 => (x.f0, x.f1))
theorem k28_open {w : World} {x : S28} {cs : List Value} (h : k28.K w x cs) : cs = [.int .i64 x.f0, .int .i64 x.f1] := by
  obtain ⟨_, _, rfl, rfl, rfl⟩ := h
  exact rfl
structure S72 where
  f0 : Int
  f1 : Int
def z72 : S72 := ⟨(0 : Int), (0 : Int)⟩
def k72 : Kd S72 := Kd.iso (Kd.pair (Kd.int .i64) (Kd.int .i64)) (fun x : S72 => (x.f0, x.f1))
theorem k72_heap : Kd.Heap k72 := Kd.heap_iso _ (Kd.heap_pair (Kd.heap_int .i64) (Kd.heap_int .i64))
theorem k72_open {w : World} {x : S72} {cs : List Value} (h : k72.K w x cs) : cs = [.int .i64 x.f0, .int .i64 x.f1] := by
  obtain ⟨_, _, rfl, rfl, rfl⟩ := h
  exact rfl
theorem k72_mk (w : World) (x : S72)  : k72.K w x [.int .i64 x.f0, .int .i64 x.f1] := ⟨[.int .i64 x.f0], [.int .i64 x.f1], rfl, rfl, rfl⟩
structure S43 where
  f0 : Int
  f1 : Int
  f2 : S25
  f3 : Int
  f4 : Int
  f5 : Bool
  f6 : Bool
  f7 : S25
  f8 : Int
  f9 : S28
  f10 : (List S72)
def z43 : S43 := ⟨(0 : Int), (0 : Int), z25, (0 : Int), (0 : Int), false, false, z25, (0 : Int), z28, ([] : List S72)⟩
def k43 : Kd S43 := Kd.iso (Kd.pair (Kd.int .i64) (Kd.pair (Kd.int .i64) (Kd.pair k25 (Kd.pair (Kd.int .i64) (Kd.pair (Kd.int .i64) (Kd.pair Kd.bool (Kd.pair Kd.bool (Kd.pair k25 (Kd.pair (Kd.int .i64) (Kd.pair k28 (Kd.slice 72 k72))))))))))) (fun x : S43 => (x.f0, x.f1, x.f2, x.f3, x.f4, x.f5, x.f6, x.f7, x.f8, x.f9, x.f10))
theorem k43_open {w : World} {x : S43} {cs : List Value} (h : k43.K w x cs) : ∃ A13 c13, cs = [.int .i64 x.f0, .int .i64 x.f1, .int .i64 x.f2.f0, .int .i64 x.f2.f1, .int .i64 x.f3, .int .i64 x.f4, .bool x.f5, .bool x.f6, .int .i64 x.f7.f0, .int .i64 x.f7.f1, .int .i64 x.f8, .int .i64 x.f9.f0, .int .i64 x.f9.f1, .slice A13 x.f10.length c13] ∧ x.f10.length ≤ c13 ∧ k72.C w A13 x.f10.length x.f10 := by
  obtain ⟨_, _, rfl, rfl, ⟨_, _, rfl, rfl, ⟨_, _, rfl, s2, ⟨_, _, rfl, rfl, ⟨_, _, rfl, rfl, ⟨_, _, rfl, rfl, ⟨_, _, rfl, rfl, ⟨_, _, rfl, s8, ⟨_, _, rfl, rfl, ⟨_, _, rfl, s11, ⟨A13, c13, rfl, l13, g13⟩⟩⟩⟩⟩⟩⟩⟩⟩⟩⟩ := h
  obtain rfl := k25_open s2
  obtain rfl := k25_open s8
  obtain rfl := k28_open s11
  exact ⟨A13, c13, rfl, l13, g13⟩
structure S45 where
  f0 : S43
  f1 : Int
def z45 : S45 := ⟨z43, (0 : Int)⟩
def k45 : Kd S45 := Kd.iso (Kd.pair k43 (Kd.int .i64)) (fun x : S45 => (x.f0, x.f1))
theorem k45_open {w : World} {x : S45} {cs : List Value} (h : k45.K w x cs) : ∃ A13 c13, cs = [.int .i64 x.f0.f0, .int .i64 x.f0.f1, .int .i64 x.f0.f2.f0, .int .i64 x.f0.f2.f1, .int .i64 x.f0.f3, .int .i64 x.f0.f4, .bool x.f0.f5, .bool x.f0.f6, .int .i64 x.f0.f7.f0, .int .i64 x.f0.f7.f1, .int .i64 x.f0.f8, .int .i64 x.f0.f9.f0, .int .i64 x.f0.f9.f1, .slice A13 x.f0.f10.length c13, .int .i64 x.f1] ∧ x.f0.f10.length ≤ c13 ∧ k72.C w A13 x.f0.f10.length x.f0.f10 := by
  obtain ⟨_, _, rfl, s0, rfl⟩ := h
  obtain ⟨A13, c13, rfl, l13, g13⟩ := k43_open s0
  exact ⟨A13, c13, rfl, l13, g13⟩
end Go.Proofs.YtdaohldmojpihaaGreatDoor.X

namespace Go.Proofs.YtdaohldmojpihaaGreatDoorPl
open Go.RowKit Go.Proofs.YtdaohldmojpihaaGreatDoorW.PrintWords Go.Proofs.YtdaohldmojpihaaGreatDoorW.PrintMore
def clip (x : Int) : Int := if x < -2305843009213693952 then -2305843009213693952 else if x > 2305843009213693952 then 2305843009213693952 else x
theorem clip_bd (x : Int) : -2305843009213693952 ≤ clip x ∧ clip x ≤ 2305843009213693952 := by unfold clip; split <;> (try split) <;> omega
theorem clip_id {x : Int} (h : -2305843009213693952 ≤ x) (h2 : x ≤ 2305843009213693952) : clip x = x := by unfold clip; rw [if_neg (by omega), if_neg (by omega)]
theorem clip_clip (x : Int) : clip (clip x) = clip x := clip_id (clip_bd x).1 (clip_bd x).2
theorem clip_mono {x y : Int} (h : x ≤ y) : clip x ≤ clip y := by unfold clip; repeat' split <;> omega
theorem wrap_id {x : Int} (h : -9223372036854775808 ≤ x) (h2 : x ≤ 9223372036854775807) : wrap64 x = x := by unfold wrap64; omega
def one (c : Int) : Int := if clip c < 1 then 1 else clip c
theorem one_bd (c : Int) : 1 ≤ one c ∧ one c ≤ 2305843009213693952 := by have := clip_bd c; unfold one; split <;> omega
def dv (a c : Int) : Int := clip a / one c
def md (a c : Int) : Int := clip a % one c
theorem tdown {a c : Int} (hc : 0 < c) : (a.tmod c < 0 → a.tdiv c - 1 = a / c ∧ a.tmod c + c = a % c) ∧ (¬ a.tmod c < 0 → a.tdiv c = a / c ∧ a.tmod c = a % c) := by
  have h1 : c * a.tdiv c + a.tmod c = a := Int.mul_tdiv_add_tmod a c
  have h3 : a.tmod c < c := Int.tmod_lt_of_pos a hc
  have h4 : -c < a.tmod c := by
    have := Int.lt_tmod_of_pos a hc
    omega
  constructor
  · intro h
    have := (Int.ediv_emod_unique (a := a) (r := a.tmod c + c) (q := a.tdiv c - 1) hc).2 ⟨by rw [Int.mul_sub]; omega, by omega, by omega⟩
    exact ⟨this.1.symm, this.2.symm⟩
  · intro h
    have := (Int.ediv_emod_unique (a := a) (r := a.tmod c) (q := a.tdiv c) hc).2 ⟨by omega, by omega, by omega⟩
    exact ⟨this.1.symm, this.2.symm⟩
theorem tdiv_bd {a c : Int} (hc : 1 ≤ c) (h1 : -2305843009213693952 ≤ a) (h2 : a ≤ 2305843009213693952) : -2305843009213693952 ≤ a.tdiv c ∧ a.tdiv c ≤ 2305843009213693953 := by
  have e1 : -2305843009213693952 ≤ a / c := Int.le_ediv_of_mul_le (by omega) (by
      have : -2305843009213693952 * c ≤ -2305843009213693952 * 1 := Int.mul_le_mul_of_nonpos_left (by omega) (by omega)
      omega)
  have e2 : a / c ≤ 2305843009213693952 := by
    refine Int.le_trans (Int.ediv_le_ediv (by omega) h2) ?_
    exact Int.ediv_le_self _ (by omega)
  have h := tdown (a := a) (c := c) (by omega)
  by_cases g : a.tmod c < 0
  · have := h.1 g; omega
  · have := h.2 g; omega
theorem tmod_bd {a c : Int} (hc : 1 ≤ c) : -c < a.tmod c ∧ a.tmod c < c := ⟨by have := Int.lt_tmod_of_pos a (show 0 < c by omega); omega, Int.tmod_lt_of_pos a (by omega)⟩
theorem drop_at {α : Type} (d : α) (l : List α) (i : Int) (h0 : 0 ≤ i) (h1 : i < (l.length : Int)) : l.drop i.toNat = l.getD i.toNat d :: l.drop (i + 1).toNat := by
  have hl : i.toNat < l.length := by omega
  rw [show (i + 1).toNat = i.toNat + 1 by omega, List.getD_eq_getElem?_getD, List.getElem?_eq_getElem hl]
  exact List.drop_eq_getElem_cons hl
theorem drop_end {α : Type} (l : List α) (i : Int) (h : (l.length : Int) ≤ i) : l.drop i.toNat = [] := List.drop_eq_nil_of_le (by omega)
def IsNext (D : Int) (l : List Int) (r : Int) : Prop :=
  (r = D + 1 ∧ ∀ x, x ∈ l → ¬ (0 ≤ x ∧ x < D)) ∨ (∃ m, m ∈ l ∧ 0 ≤ m ∧ m < D ∧ r = m + 1 ∧ ∀ x, x ∈ l → 0 ≤ x → x < D → m ≤ x)
theorem IsNext.perm {D : Int} {l l' : List Int} {r : Int} (h : IsNext D l r) (hp : ∀ x, x ∈ l' ↔ x ∈ l) : IsNext D l' r := by
  rcases h with ⟨rfl, h⟩ | ⟨m, hm, h0, h1, rfl, h⟩
  · exact .inl ⟨rfl, fun x hx => h x ((hp x).1 hx)⟩
  · exact .inr ⟨m, (hp m).2 hm, h0, h1, rfl, fun x hx => h x ((hp x).1 hx)⟩
section
variable {α : Type} (us : α → Bool) (lt : α → α → Bool)
def beats (s : Option α) (m : α) : Bool := match s with | none => true | some b => lt m b
def pstep (s : Option α) (m : α) : Option α := if (us m && beats lt s m) = true then some m else s
def pick (l : List α) : Option α := l.foldl (pstep us lt) none
variable {us lt}
end
theorem lsA {α : Type} (l : List α) (i : Nat) (a : α) : l.toArray.setIfInBounds i a = (l.set i a).toArray := List.setIfInBounds_toArray ..
theorem lsZ {α : Type} {x : α} {xs : List α} {a : α} : (x :: xs).set 0 a = a :: xs := rfl
theorem lsS {α : Type} {x : α} {xs : List α} {i : Nat} {a : α} : (x :: xs).set (i + 1) a = x :: xs.set i a := rfl
end Go.Proofs.YtdaohldmojpihaaGreatDoorPl

namespace Go.Proofs.YtdaohldmojpihaaGreatDoor.G
open Go.RowKit Go.Proofs.YtdaohldmojpihaaGreatDoorW.PrintWords Go.Proofs.YtdaohldmojpihaaGreatDoorW.PrintLast Go.Proofs.YtdaohldmojpihaaGreatDoorW.PrintMore Go.Proofs.YtdaohldmojpihaaGreatDoorPl
set_option linter.unusedVariables false
set_option linter.unusedSimpArgs false
def bound (x lo hi : Int) : Int := if x < lo ∨ hi < lo then lo else if x > hi then hi else x
theorem bound_clip (x : Int) : bound x (-2305843009213693952) 2305843009213693952 = clip x := by
  unfold bound clip
  by_cases h : x < -2305843009213693952
  · rw [if_pos (.inl h), if_pos h]
  · rw [if_neg (by omega), if_neg h]
def ssub (a b : Int) : Int := clip (clip a - clip b)
def sneg (a : Int) : Int := -clip a
def sabs (a : Int) : Int := if a < 0 then sneg a else clip a
theorem sabs_bd (a : Int) : 0 ≤ sabs a ∧ sabs a ≤ 2305843009213693952 := by
  have := clip_bd a
  unfold sabs sneg
  split
  · have : clip a ≤ 0 := by unfold clip; repeat' split <;> omega
    omega
  · have : 0 ≤ clip a := by unfold clip; repeat' split <;> omega
    omega
def smul (a b : Int) : Int :=
  let x := sabs a
  let y := sabs b
  let p := if x = 0 ∨ y ≤ 2305843009213693952 / x then x * y else 2305843009213693952
  if decide (a < 0) = decide (b < 0) then p else -p
def sadd (l : List Int) : Int := l.foldl (fun n x => clip (n + clip x)) 0
def smax (l : List Int) : Int := l.foldl (fun n x => if n < clip x then clip x else n) (-2305843009213693952)
set_option maxHeartbeats 1000000 in
theorem Bound_calls (x lo hi : Int) (w : World) : Calls Tryz.prog 46 #[.int .i64 x, .int .i64 lo, .int .i64 hi] w fun e w' => e = .returned (.int .i64 (bound x lo hi)) ∧ w' = w := by
  by_cases h1 : x < lo
  · have hb := Lib.hid (show bound x lo hi = lo by unfold bound; rw [if_pos (.inl h1)])
    have d1 : decide (x < lo) = true := decide_eq_true h1
    clear h1
    go_enter Tryz.func46, Tryz.ntmps46
    go_wp2
    go_ret
    exact ⟨(by rw [hb.out]; try rfl), rfl⟩
  · by_cases h2 : hi < lo
    · have hb := Lib.hid (show bound x lo hi = lo by unfold bound; rw [if_pos (.inr h2)])
      have d1 : decide (x < lo) = false := decide_eq_false h1
      have d2 : decide (hi < lo) = true := decide_eq_true h2
      clear h1 h2
      go_enter Tryz.func46, Tryz.ntmps46
      go_wp2
      go_ret
      exact ⟨(by rw [hb.out]; try rfl), rfl⟩
    · have d1 : decide (x < lo) = false := decide_eq_false h1
      have d2 : decide (hi < lo) = false := decide_eq_false h2
      by_cases h3 : hi < x
      · have hb := Lib.hid (show bound x lo hi = hi by unfold bound; rw [if_neg (by omega), if_pos h3])
        have d3 : decide (hi < x) = true := decide_eq_true h3
        clear h1 h2 h3
        go_enter Tryz.func46, Tryz.ntmps46
        go_wp2
        go_ret
        exact ⟨(by rw [hb.out]; try rfl), rfl⟩
      · have hb := Lib.hid (show bound x lo hi = x by unfold bound; rw [if_neg (by omega), if_neg (by omega)])
        have d3 : decide (hi < x) = false := decide_eq_false h3
        clear h1 h2 h3
        go_enter Tryz.func46, Tryz.ntmps46
        go_wp2
        go_ret
        exact ⟨(by rw [hb.out]; try rfl), rfl⟩
theorem Clip_calls (x : Int) (w : World) : Calls Tryz.prog 45 #[.int .i64 x] w fun e w' => e = .returned (.int .i64 (clip x)) ∧ w' = w := by
  have hb := Lib.hid (bound_clip x)
  go_enter Tryz.func45, Tryz.ntmps45
  go_wp2_with (go_at_call 46; refine (Bound_calls _ _ _ _).mono ?_; rintro e w' ⟨rfl, rfl⟩)
  go_ret
  exact ⟨by rw [← hb.out]; rfl, rfl⟩
theorem Neg_calls (x : Int) (w : World) : Calls Tryz.prog 123 #[.int .i64 x] w fun e w' => e = .returned (.int .i64 (sneg x)) ∧ w' = w := by
  have hb := clip_bd x
  have hb1 := hb.1
  have hb2 := hb.2
  have hn := Lib.hid (show sneg x = -clip x from rfl)
  clear hb
  go_enter Tryz.func123, Tryz.ntmps123
  go_wp2_with (go_at_call 45; refine (Clip_calls _ _).mono ?_; rintro e w' ⟨rfl, rfl⟩)
  go_ret
  exact ⟨(by rw [hn.out]; try rfl), rfl⟩
theorem Abs_calls (x : Int) (w : World) : Calls Tryz.prog 79 #[.int .i64 x] w fun e w' => e = .returned (.int .i64 (sabs x)) ∧ w' = w := by
  by_cases h1 : x < 0
  · have hb := Lib.hid (show sabs x = sneg x by unfold sabs; rw [if_pos h1])
    have d1 : decide (x < 0) = true := decide_eq_true h1
    clear h1
    go_enter Tryz.func79, Tryz.ntmps79
    go_wp2_with (go_at_call 123; refine (Neg_calls _ _).mono ?_; rintro e w' ⟨rfl, rfl⟩)
    go_ret
    exact ⟨(by rw [hb.out]; try rfl), rfl⟩
  · have hb := Lib.hid (show sabs x = clip x by unfold sabs; rw [if_neg h1])
    have d1 : decide (x < 0) = false := decide_eq_false h1
    clear h1
    go_enter Tryz.func79, Tryz.ntmps79
    go_wp2_with (go_at_call 45; refine (Clip_calls _ _).mono ?_; rintro e w' ⟨rfl, rfl⟩)
    go_ret
    exact ⟨(by rw [hb.out]; try rfl), rfl⟩
set_option maxHeartbeats 1000000 in
theorem Sub_calls (x y : Int) (w : World) : Calls Tryz.prog 77 #[.int .i64 x, .int .i64 y] w fun e w' => e = .returned (.int .i64 (ssub x y)) ∧ w' = w := by
  have h1 := (clip_bd x).1
  have h2 := (clip_bd x).2
  have h3 := (clip_bd y).1
  have h4 := (clip_bd y).2
  have hn := Lib.hid (show ssub x y = clip (clip x - clip y) from rfl)
  go_enter Tryz.func77, Tryz.ntmps77
  go_wp2_with (go_at_call 45; refine (Clip_calls _ _).mono ?_; rintro e w' ⟨rfl, rfl⟩)
  go_ret
  exact ⟨(by rw [hn.out]; try rfl), rfl⟩
theorem smul_prod {a b : Int} (h : sabs a = 0 ∨ sabs b ≤ 2305843009213693952 / sabs a) : 0 ≤ sabs a * sabs b ∧ sabs a * sabs b ≤ 2305843009213693952 := by
  have h1 := sabs_bd a
  have h3 := sabs_bd b
  refine ⟨Int.mul_nonneg h1.1 h3.1, ?_⟩
  rcases h with h | h
  · rw [h]; omega
  · by_cases h0 : sabs a = 0
    · rw [h0]; omega
    · have h6 : sabs a * sabs b ≤ sabs a * (2305843009213693952 / sabs a) := Int.mul_le_mul_of_nonneg_left h h1.1
      have h7 := Int.mul_ediv_self_le (x := 2305843009213693952) (k := sabs a) h0
      omega
set_option maxHeartbeats 4000000 in
theorem Mul_calls (a b : Int) (w : World) : Calls Tryz.prog 41 #[.int .i64 a, .int .i64 b] w fun e w' => e = .returned (.int .i64 (smul a b)) ∧ w' = w := by
  have h1 := (sabs_bd a).1
  have h2 := (sabs_bd a).2
  have h3 := (sabs_bd b).1
  have h4 := (sabs_bd b).2
  have hn : smul a b = if decide (a < 0) = decide (b < 0) then (if sabs a = 0 ∨ sabs b ≤ 2305843009213693952 / sabs a then sabs a * sabs b else 2305843009213693952) else -(if sabs a = 0 ∨ sabs b ≤ 2305843009213693952 / sabs a then sabs a * sabs b else 2305843009213693952) := rfl
  obtain ⟨ba, hba⟩ : ∃ c, decide (a < 0) = c := ⟨_, rfl⟩
  obtain ⟨bb, hbb⟩ : ∃ c, decide (b < 0) = c := ⟨_, rfl⟩
  rw [hba, hbb] at hn
  by_cases hx : sabs a = 0
  · obtain ⟨p0, p1⟩ := smul_prod (b := b) (.inl hx)
    have dx : (sabs a == 0) = true := beq_iff_eq.2 hx
    simp only [if_pos (Or.inl (b := sabs b ≤ 2305843009213693952 / sabs a) hx)] at hn
    have HN := Lib.hid hn
    clear hn hx
    cases ba <;> cases bb
    all_goals
      go_enter Tryz.func41, Tryz.ntmps41
      go_wp2_with (go_at_call 79; refine (Abs_calls _ _).mono ?_; rintro e w' ⟨rfl, rfl⟩)
      go_ret
      exact ⟨(by rw [HN.out]; try rfl), rfl⟩
  · have dx : (sabs a == 0) = false := beq_eq_false_iff_ne.2 hx
    have hx1 : 1 ≤ sabs a := by omega
    have hq : (2305843009213693952 : Int).tdiv (sabs a) = 2305843009213693952 / sabs a := Int.tdiv_eq_ediv_of_nonneg (by omega)
    have hq0 : 0 ≤ (2305843009213693952 : Int) / sabs a := Int.ediv_nonneg (by omega) (by omega)
    have hq1 : (2305843009213693952 : Int) / sabs a ≤ 2305843009213693952 := Int.ediv_le_self _ (by omega)
    by_cases hy : sabs b ≤ 2305843009213693952 / sabs a
    · obtain ⟨p0, p1⟩ := smul_prod (a := a) (b := b) (.inr hy)
      have dy : decide (sabs b ≤ 2305843009213693952 / sabs a) = true := decide_eq_true hy
      simp only [if_pos (Or.inr (a := sabs a = 0) hy)] at hn
      have HN := Lib.hid hn
      clear hn hy hx
      cases ba <;> cases bb
      all_goals
        go_enter Tryz.func41, Tryz.ntmps41
        go_wp2_with (go_at_call 79; refine (Abs_calls _ _).mono ?_; rintro e w' ⟨rfl, rfl⟩)
        go_ret
        exact ⟨(by rw [HN.out]; try rfl), rfl⟩
    · have dy : decide (sabs b ≤ 2305843009213693952 / sabs a) = false := decide_eq_false hy
      have hc : ¬ (sabs a = 0 ∨ sabs b ≤ 2305843009213693952 / sabs a) := fun h => h.elim hx hy
      simp only [if_neg hc] at hn
      have HN := Lib.hid hn
      clear hn hy hx
      cases ba <;> cases bb
      all_goals
        go_enter Tryz.func41, Tryz.ntmps41
        go_wp2_with (go_at_call 79; refine (Abs_calls _ _).mono ?_; rintro e w' ⟨rfl, rfl⟩)
        go_ret
        exact ⟨(by rw [HN.out]; try rfl), rfl⟩
end Go.Proofs.YtdaohldmojpihaaGreatDoor.G
