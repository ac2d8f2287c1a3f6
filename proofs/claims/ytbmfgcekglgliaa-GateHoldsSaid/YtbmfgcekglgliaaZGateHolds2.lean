/- Texts Kw, Pl, Ga, Gb, Gc2, Gd, in one file, without what is not needed here. -/
import Derived.Test.YtbmfgcekglgliaaProg
import Derived.Test.YtbmfgcekglgliaaZGateHolds1
namespace Go.Proofs.YtbmfgcekglgliaaKr
open Go.RowKit Go.Proofs.YtbmfgcekglgliaaW.PrintWords Go.Proofs.YtbmfgcekglgliaaW.PrintLast Go.Proofs.YtbmfgcekglgliaaW.PrintMore
open Go.Proofs.YtbmfgcekglgliaaEm (Fr Chg At Of Tr Keep)
set_option linter.unusedVariables false
theorem upC_chg {D : Nat → Prop} {W0 : World} : UpC (Chg D W0) (fun k => D k ∨ W0.heap.size ≤ k) where
  up := fun W W' h hb => h.trans (Chg.of_below hb)
  put := fun W g j us cur t h hv hg => by
    obtain ⟨s1, s2, s3, s4⟩ := setCells_same g us j W
    refine ⟨s1.trans h.os, s2.trans h.tape, s3.trans h.output, by rw [s4]; exact h.size, fun k hk hn => ?_⟩
    refine (setCells_far us j k (fun e => ?_)).trans (h.block k hk hn)
    subst e
    rcases hv with hv | hv
    · exact hn hv
    · omega
  fresh := fun W h => .inr h.size
structure Rd (bl : List (Nat × Obj)) (p : World → Prop) (W : World) : Prop where
  blk : ∀ x, x ∈ bl → W.heap[x.1]? = some x.2
  now : p W
theorem Rd.at {bl bl' : List (Nat × Obj)} {p : World → Prop} {W : World} {g : Nat} {o n : Obj} (h : Rd bl p W) (ha : At bl g o n bl') : W.heap[g]? = some o := h.blk _ ha.mem
inductive Take : List (Nat × Obj) → Nat → Obj → List (Nat × Obj) → Prop
  | head {g : Nat} {o : Obj} {bl : List (Nat × Obj)} : Take ((g, o) :: bl) g o bl
  | tail {g : Nat} {o : Obj} {x : Nat × Obj} {bl bl' : List (Nat × Obj)} (h : Take bl g o bl') : Take (x :: bl) g o (x :: bl')
theorem Take.perm {bl bl' : List (Nat × Obj)} {g : Nat} {o : Obj} (h : Take bl g o bl') : bl.Perm ((g, o) :: bl') := by
  induction h with
  | head => exact List.Perm.refl _
  | tail h ih => exact (ih.cons _).trans (List.Perm.swap _ _ _)
def cv (e : Nat × Nat × TypeId × Array Value) : Nat × Obj := (e.2.1, .cells e.2.2.2 e.2.2.1 (0, 0))
def vars (n : Nat) (D : List (Nat × TypeId × Array Value)) : List (Nat × Nat × TypeId × Array Value) := D.map fun d => (n, d.1, d.2.1, d.2.2)
def inD (D : List (Nat × TypeId × Array Value)) (k : Nat) : Prop := ∃ d, d ∈ D ∧ d.1 = k
section
variable {M A : Nat → Prop} {w W : World} {bl bl0 : List (Nat × Obj)} {p : World → Prop} {D : List (Nat × TypeId × Array Value)}
theorem nd_perm {l l' : List (Nat × Obj)} (h : l.Perm l') (g : l.Pairwise (fun x y => x.1 ≠ y.1)) : l'.Pairwise (fun x y => x.1 ≠ y.1) := (h.pairwise_iff (fun h e => h e.symm)).1 g
theorem Fr.behind (H : Fr M A w W bl p) (hp : bl.Perm (D.map (fun d => (d.1, Obj.cells d.2.2 d.2.1 (0, 0))) ++ bl0)) {F : Facts} {w' : World} (hc : Chg (inD D) W w') (hF : holds F w') (hs : Sep F) (hv : InV (fun k => inD D k ∨ W.heap.size ≤ k) F) (hD : ∀ d, d ∈ D → ∃ e, e ∈ F.var ∧ e.2.1 = d.1) :
    Fr M A w w' (F.var.map cv ++ bl0) p := by
  have nd := nd_perm hp H.nd
  have hDbl : ∀ k, inD D k → Of bl k := fun k ⟨d, hd, e⟩ => ⟨_, hp.mem_iff.2 (List.mem_append_left _ (List.mem_map.2 ⟨d, hd, rfl⟩)), e⟩
  have h0 : ∀ x, x ∈ bl0 → ¬ inD D x.1 := fun x hx ⟨d, hd, e⟩ => (List.pairwise_append.1 nd).2.2 _ (List.mem_map.2 ⟨d, hd, rfl⟩) x hx e
  have h0m : ∀ x, x ∈ bl0 → x ∈ bl := fun x hx => hp.mem_iff.2 (List.mem_append_right _ hx)
  have h0l : ∀ x, x ∈ bl0 → x.1 < W.heap.size := fun x hx => obj_lt (H.blk x (h0m x hx)).1
  have hM : ∀ k, inD D k → w.heap.size ≤ k ∨ M k := fun k hk => by
    obtain ⟨x, hx, e⟩ := hDbl k hk
    rw [← e]; exact (H.blk x hx).2
  refine ⟨H.av, ⟨hc.os.trans H.chg.os, hc.tape.trans H.chg.tape, hc.output.trans H.chg.output, Nat.le_trans H.chg.size hc.size, fun k hk hn => ?_⟩, fun x hx => ?_, ?_, ?_⟩
  · refine (hc.block k (Nat.lt_of_lt_of_le hk H.chg.size) (fun hd => ?_)).trans (H.chg.block k hk hn)
    rcases hM k hd with q | q
    · omega
    · exact hn q
  · rcases List.mem_append.1 hx with hx | hx
    · obtain ⟨e, he, rfl⟩ := List.mem_map.1 hx
      refine ⟨hF.2 e he, ?_⟩
      rcases hv e he with q | q
      · exact hM _ q
      · exact .inl (Nat.le_trans H.chg.size q)
    · exact ⟨(hc.block _ (h0l x hx) (h0 x hx)).trans (H.blk x (h0m x hx)).1, (H.blk x (h0m x hx)).2⟩
  · refine List.pairwise_append.2 ⟨?_, (List.pairwise_append.1 nd).2.1, ?_⟩
    · rw [List.pairwise_map]
      have := hs.2
      rw [List.Nodup, List.pairwise_map] at this
      exact this.imp (fun h e => h e)
    · intro x hx y hy e
      obtain ⟨z, hz, rfl⟩ := List.mem_map.1 hx
      have e' : z.2.1 = y.1 := e
      rcases hv z hz with q | q
      · exact h0 y hy (e' ▸ q)
      · have := h0l y hy
        omega
  · intro W'' hW
    refine H.tr W'' (fun k hn hk => ?_)
    have hnd : ¬ inD D k := fun hd => hn (.inr (hDbl k hd))
    refine (hW k (fun q => ?_) (Nat.lt_of_lt_of_le hk hc.size)).trans (hc.block k hk hnd)
    rcases q with q | ⟨x, hx, e⟩
    · exact hn (.inl q)
    · rcases List.mem_append.1 hx with hx | hx
      · obtain ⟨z, hz, rfl⟩ := List.mem_map.1 hx
        have e' : z.2.1 = k := e
        rcases hv z hz with q | q
        · exact hnd (e' ▸ q)
        · omega
      · exact hn (.inr ⟨x, h0m x hx, e⟩)
theorem Fr.rd (H : Fr M A w W bl p) (hp : bl.Perm (D.map (fun d => (d.1, Obj.cells d.2.2 d.2.1 (0, 0))) ++ bl0)) : ∀ w', Chg (inD D) W w' → Rd bl0 p w' := by
  have nd := nd_perm hp H.nd
  have hDbl : ∀ k, inD D k → Of bl k := fun k ⟨d, hd, e⟩ => ⟨_, hp.mem_iff.2 (List.mem_append_left _ (List.mem_map.2 ⟨d, hd, rfl⟩)), e⟩
  intro w' hc
  refine ⟨fun x hx => ?_, H.tr w' (fun k hn hk => hc.block k hk (fun hd => hn (.inr (hDbl k hd))))⟩
  have hm : x ∈ bl := hp.mem_iff.2 (List.mem_append_right _ hx)
  exact (hc.block _ (obj_lt (H.blk x hm).1) (fun ⟨d, hd, e⟩ => (List.pairwise_append.1 nd).2.2 _ (List.mem_map.2 ⟨d, hd, rfl⟩) x hx e)).trans (H.blk x hm).1
theorem var_kept {P : Program} {ops : Array Oper} {C : World → Prop} {Q : Act → Facts → Prop} (b : Nat) : ∀ (l : List Oper) (k : Nat) (a : Act) (F : Facts), (∃ e, e ∈ F.var ∧ e.2.1 = b) → wpO P ops C Q k l a F → wpO P ops C (fun a F => (∃ e, e ∈ F.var ∧ e.2.1 = b) ∧ Q a F) k l a F
  | [], _, _, _, h, hh => ⟨h, hh⟩
  | o :: l, k, a, F, h, ⟨r, h1, h2⟩ => ⟨r, h1, fun x hx => var_kept b l (k + 1) _ _ (by
      obtain ⟨e, he, q⟩ := h
      cases r with
      | val v => exact ⟨e, he, q⟩
      | new s ob => exact ⟨e, he, q⟩
      | newv t cs => exact ⟨e, List.mem_cons_of_mem _ he, q⟩
      | put g j us =>
        obtain ⟨e1, q1, _, q2, _⟩ := mem_upd (g := g) (j := j) (us := us) he
        exact ⟨e1, q1, q2.trans q⟩) (h2 x hx)⟩
theorem vars_kept {P : Program} {ops : Array Oper} {C : World → Prop} : ∀ (D : List (Nat × TypeId × Array Value)) {Q : Act → Facts → Prop} {l : List Oper} {k : Nat} {a : Act} {F : Facts}, (∀ d, d ∈ D → ∃ e, e ∈ F.var ∧ e.2.1 = d.1) → wpO P ops C Q k l a F → wpO P ops C (fun a F => (∀ d, d ∈ D → ∃ e, e ∈ F.var ∧ e.2.1 = d.1) ∧ Q a F) k l a F
  | [], Q, l, k, a, F, _, hh => wpO_imp (fun a F h => ⟨(fun d hd => by cases hd), h⟩) l k a F hh
  | d :: D, Q, l, k, a, F, h, hh => wpO_imp (fun a F h => ⟨fun d' hd' => by
      rcases List.mem_cons.1 hd' with rfl | hd'
      · exact h.1
      · exact h.2.1 d' hd', h.2.2⟩) l k a F (var_kept d.1 l k a F (h d List.mem_cons_self) (vars_kept D (fun d' hd' => h d' (List.mem_cons_of_mem _ hd')) hh))
where
  wpO_imp {P : Program} {ops : Array Oper} {C : World → Prop} {Q Q' : Act → Facts → Prop} (h : ∀ a F, Q a F → Q' a F) : ∀ (l : List Oper) (k : Nat) (a : Act) (F : Facts), wpO P ops C Q k l a F → wpO P ops C Q' k l a F
    | [], _, _, _, hh => h _ _ hh
    | o :: l, k, a, F, ⟨r, h1, h2⟩ => ⟨r, h1, fun x hx => wpO_imp h l (k + 1) _ _ (h2 x hx)⟩
theorem ko_region {P : Program} {id : Nat} {Q' : Exit → Act → World → Prop} {a : Act} {l : List Oper} (D : List (Nat × TypeId × Array Value)) (H : Fr M A w W bl p) (hp : bl.Perm (D.map (fun d => (d.1, Obj.cells d.2.2 d.2.1 (0, 0))) ++ bl0)) (hm : P.follows .mixedOrders = true) (hB : Region.lexB .any l.toArray = true)
    (h : (∀ w', Chg (inD D) W w' → Rd bl0 p w') → wpO P l.toArray (Chg (inD D) W) (fun a' F => ∀ w', Fr M A w w' (F.var.map cv ++ bl0) p → Q' .normal a' w') 0 l a ⟨[], vars l.length D, []⟩) : (Code.region id l.toArray true).wp P Q' a W := by
  have nd := nd_perm hp H.nd
  have hF : holds ⟨[], vars l.length D, []⟩ W := ⟨(fun p hp => by cases hp), fun e he => by
    obtain ⟨d, hd, rfl⟩ := List.mem_map.1 he
    exact (H.blk _ (hp.mem_iff.2 (List.mem_append_left _ (List.mem_map.2 ⟨d, hd, rfl⟩)))).1⟩
  have hs : Sep ⟨[], vars l.length D, []⟩ := ⟨(fun p hp => by cases hp), by
    have h1 := (List.pairwise_append.1 nd).1
    rw [List.pairwise_map] at h1
    simp only [vars, List.map_map, List.Nodup, List.pairwise_map]
    exact h1⟩
  refine wp_region_O (upC_chg (D := inD D) (W0 := W)) ⟨[], vars l.length D, []⟩ hm hB (Chg.refl _ _) hF hs (fun e he => by
    obtain ⟨d, hd, rfl⟩ := List.mem_map.1 he
    exact .inl ⟨d, hd, rfl⟩) ?_
  exact vars_kept.wpO_imp (fun a F h w' hc hF hs hv => h.2 w' (Fr.behind H hp hc hF hs hv h.1)) _ _ _ _ (vars_kept D (fun d hd => ⟨_, List.mem_map.2 ⟨d, hd, rfl⟩, rfl⟩) (h (Fr.rd H hp)))
theorem ko_region0 {P : Program} {id : Nat} {Q' : Exit → Act → World → Prop} {a : Act} {l : List Oper} (H : Fr M A w W bl p) (hm : P.follows .mixedOrders = true) (hB : Region.lexB .any l.toArray = true)
    (h : (∀ w', Chg (inD []) W w' → Rd bl p w') → wpO P l.toArray (Chg (inD []) W) (fun a' F => ∀ w', Fr M A w w' (F.var.map cv ++ bl) p → Q' .normal a' w') 0 l a ⟨[], [], []⟩) : (Code.region id l.toArray true).wp P Q' a W :=
  ko_region [] H (List.Perm.refl _) hm hB h
theorem ko_region1 {P : Program} {id : Nat} {Q' : Exit → Act → World → Prop} {a : Act} {l : List Oper} {g n : Nat} {t : TypeId} {cs : Array Value} (H : Fr M A w W bl p) (hn : l.length = n) (h1 : Take bl g (.cells cs t (0, 0)) bl0) (hm : P.follows .mixedOrders = true) (hB : Region.lexB .any l.toArray = true)
    (h : (∀ w', Chg (inD [(g, t, cs)]) W w' → Rd bl0 p w') → wpO P l.toArray (Chg (inD [(g, t, cs)]) W) (fun a' F => ∀ w', Fr M A w w' (F.var.map cv ++ bl0) p → Q' .normal a' w') 0 l a ⟨[], [(n, g, t, cs)], []⟩) : (Code.region id l.toArray true).wp P Q' a W := by
  subst hn
  exact ko_region [(g, t, cs)] H h1.perm hm hB h
end
section
variable {P : Program} {ops : Array Oper} {C : World → Prop} {Q : Act → Facts → Prop} {k : Nat} {o : Oper} {rest : List Oper} {a : Act} {F : Facts} {v : Value} {bl bl' : List (Nat × Obj)} {p : World → Prop}
theorem kg_load {ty : TypeId} {x : Operand} (_ho : o.op = .load ty x) (h : wpO P ops C Q k (o :: rest) a F) : wpO P ops C Q k (o :: rest) a F := h
theorem kg_store {ty : TypeId} {x v : Operand} (_ho : o.op = .store ty x v) (h : wpO P ops C Q k (o :: rest) a F) : wpO P ops C Q k (o :: rest) a F := h
theorem kg_dst {N : Tmp} (_hd : o.dst = some N) (h : wpO P ops C Q k (o :: rest) a F) : wpO P ops C Q k (o :: rest) a F := h
theorem kg_call {f : FuncId} {as_ : Array Operand} {ts : Array TypeId} (_ho : o.op = .call { callee := .value (.func f), args := as_, argTypes := ts }) (h : wpO P ops C Q k (o :: rest) a F) : wpO P ops C Q k (o :: rest) a F := h
theorem ko_off (hw : Region.wanted o (yielded ops a.tmps) = false) (h : wpO P ops C Q (k + 1) rest (a.put o.dst undef) F) : wpO P ops C Q k (o :: rest) a F := ⟨.val undef, .inr ⟨hw, rfl⟩, fun _ _ => h⟩
theorem ko_take (hk : kindO o = 0) (hw : Region.wanted o (yielded ops a.tmps) = true) (hy : ∀ W, C W → (execOp a.eval o).run P W = .ok (.value v) W) (h : wpO P ops C Q (k + 1) rest (a.put o.dst v) F) : wpO P ops C Q k (o :: rest) a F :=
  ⟨.val v, .inl ⟨hw, trivial, fun W hC _ => ⟨by rw [hk]; decide, by rw [hy W hC]; exact ⟨rfl, rfl⟩⟩⟩, fun _ _ => h⟩
theorem ko_pure (hk : kindO o = 0) (hw : Region.wanted o (yielded ops a.tmps) = true) (hy : ∀ W (K : Result Next → Prop), Hid (K (.ok (.value v) W)) → K ((execOp a.eval o).run P W)) (h : wpO P ops C Q (k + 1) rest (a.put o.dst v) F) : wpO P ops C Q k (o :: rest) a F :=
  ko_take hk hw (fun W _ => hy W (fun r => r = .ok (.value v) W) (Lib.hid rfl)) h
theorem ko_cell {ty : TypeId} {x : Operand} {ad : Addr} {d : TypeDesc} (ho : o.op = .load ty x) (hw : Region.wanted o (yielded ops a.tmps) = true) (hx : a.eval x = .pointer (some ad)) (hu : P.underlying ty = some d) (hd : (match d with | .struct _ | .array _ _ => true | _ => false) = false) (hc : ∀ W, C W → W.cell? ad = some v)
    (h : wpO P ops C Q (k + 1) rest (a.put o.dst v) F) : wpO P ops C Q k (o :: rest) a F := by
  refine ko_take (by unfold kindO; rw [ho]) hw (fun W hW => ?_) h
  have hagg : (isAgg ty).run P W = .ok false W := by
    unfold isAgg
    rw [Sem.run_bind, run_underlying hu W]
    cases d <;> simp_all
  have hlv : (loadVar ty ad).run P W = .ok v W := by simp [loadVar, Sem.run_bind, hagg, hc W hW]
  unfold execOp
  simp only [ho, hx, Instr.loadAt, Instr.sureAddr, Sem.run_bind, Sem.run_pure, Result.andThen_ok, hlv]
theorem ko_cells {ty : TypeId} {x : Operand} {ad : Addr} {d : TypeDesc} {cs : List Value} (ho : o.op = .load ty x) (hw : Region.wanted o (yielded ops a.tmps) = true) (hx : a.eval x = .pointer (some ad)) (hu : P.underlying ty = some d) (hd : (match d with | .struct _ | .array _ _ => true | _ => false) = true) (hi : (P.info? ty).map (·.size) = some cs.length) (hc : ∀ W, C W → ∀ j u, cs[j]? = some u → W.cell? (ad.add j) = some u)
    (h : wpO P ops C Q (k + 1) rest (a.put o.dst (.agg cs.toArray)) F) : wpO P ops C Q k (o :: rest) a F := by
  refine ko_take (by unfold kindO; rw [ho]) hw (fun W hW => ?_) h
  have hl := run_loadCells_list (P := P) W ad cs (hc W hW)
  have hagg : (isAgg ty).run P W = .ok true W := by
    unfold isAgg
    rw [Sem.run_bind, run_underlying hu W]
    cases d <;> simp_all
  obtain ⟨i, hq, hs⟩ := Option.map_eq_some_iff.1 hi
  have hlv : (loadVar ty ad).run P W = .ok (.agg cs.toArray) W := by simp [loadVar, Sem.run_bind, hagg, sizeOf, typeInfo, hq, hs, hl]
  unfold execOp
  simp only [ho, hx, Instr.loadAt, Instr.sureAddr, Sem.run_bind, Sem.run_pure, Result.andThen_ok, hlv]
theorem ko_get (HR : ∀ W, C W → Rd bl p W) {ty : TypeId} {x : Operand} {g j : Nat} {e : TypeId} {cs : Array Value} {d : TypeDesc} (ho : o.op = .load ty x) (hw : Region.wanted o (yielded ops a.tmps) = true) (hx : a.eval x = .pointer (some ⟨g, j, none⟩)) (ha : At bl g (.cells cs e (0, 0)) (.cells cs e (0, 0)) bl') (hu : P.underlying ty = some d) (hd : (match d with | .struct _ | .array _ _ => true | _ => false) = false) (hc : cs[j]? = some v)
    (h : wpO P ops C Q (k + 1) rest (a.put o.dst v) F) : wpO P ops C Q k (o :: rest) a F :=
  ko_cell ho hw hx hu hd (fun W hW => (blk_cell ((HR W hW).at ha) j).trans hc) h
theorem ko_sub (HR : ∀ W, C W → Rd bl p W) {ty : TypeId} {x : Operand} {g j n : Nat} {e : TypeId} {cs : Array Value} {d : TypeDesc} {vs : List Value} (ho : o.op = .load ty x) (hw : Region.wanted o (yielded ops a.tmps) = true) (hx : a.eval x = .pointer (some ⟨g, j, none⟩)) (ha : At bl g (.cells cs e (0, 0)) (.cells cs e (0, 0)) bl') (hu : P.underlying ty = some d) (hd : (match d with | .struct _ | .array _ _ => true | _ => false) = true) (hi : (P.info? ty).map (·.size) = some n) (hv : (cs.toList.drop j).take n = vs) (hn : n = vs.length)
    (h : wpO P ops C Q (k + 1) rest (a.put o.dst (.agg vs.toArray)) F) : wpO P ops C Q k (o :: rest) a F := by
  refine ko_cells ho hw hx hu hd (hn ▸ hi) (fun W hW i u hu => ?_) h
  have hi : i < n := by rw [hn]; exact (List.getElem?_eq_some_iff.1 hu).1
  rw [← hv, List.getElem?_take, if_pos hi, List.getElem?_drop] at hu
  have hc := blk_cell ((HR W hW).at ha) (j + i)
  rw [show ((⟨g, j, none⟩ : Addr).add i) = ⟨g, j + i, none⟩ by
    unfold Addr.add
    split
    · rename_i h0; rw [h0]; rfl
    · rfl, hc]
  simpa using hu
theorem ko_row {n : Nat} {ob : Obj} (hk : kindO o = 0) (hw : Region.wanted o (yielded ops a.tmps) = true) (hy : ∀ W (K : Result Next → Prop), Hid (K (.ok (.value (.slice (some ⟨W.heap.size, 0, none⟩) n n)) (W.alloc ob))) → K ((execOp a.eval o).run P W))
    (h : ∀ x, wpO P ops C Q (k + 1) rest (a.put o.dst (.slice (some ⟨x, 0, none⟩) n n)) { F with fro := (k, x, ob) :: F.fro }) : wpO P ops C Q k (o :: rest) a F :=
  ⟨.new (.sl n n) ob, .inl ⟨hw, trivial, fun W hC _ => ⟨hk, hy W (fun r => r = .ok (.value (.slice (some ⟨W.heap.size, 0, none⟩) n n)) (W.alloc ob)) (Lib.hid rfl)⟩⟩, fun x _ => h x⟩
theorem ko_var {t : TypeId} {cs : Array Value} (hk : kindO o = 2) (hw : Region.wanted o (yielded ops a.tmps) = true) (hy : ∀ W (K : Result Next → Prop), Hid (K (.ok (.value (.pointer (some ⟨W.heap.size, 0, none⟩))) (W.alloc (.cells cs t (0, 0))))) → K ((execOp a.eval o).run P W))
    (h : ∀ x, wpO P ops C Q (k + 1) rest (a.put o.dst (.pointer (some ⟨x, 0, none⟩))) { F with var := (k, x, t, cs) :: F.var }) : wpO P ops C Q k (o :: rest) a F :=
  ⟨.newv t cs, .inl ⟨hw, trivial, fun W hC _ => ⟨hk, hy W (fun r => r = .ok (.value (.pointer (some ⟨W.heap.size, 0, none⟩))) (W.alloc (.cells cs t (0, 0)))) (Lib.hid rfl)⟩⟩, fun x _ => h x⟩
inductive VarAt : List (Nat × Nat × TypeId × Array Value) → Nat → Nat → TypeId → Array Value → Array Value → List (Nat × Nat × TypeId × Array Value) → Prop
  | head {q g : Nat} {t : TypeId} {cs cs' : Array Value} {l : List (Nat × Nat × TypeId × Array Value)} : VarAt ((q, g, t, cs) :: l) q g t cs cs' ((q, g, t, cs') :: l)
  | tail {x : Nat × Nat × TypeId × Array Value} {q g : Nat} {t : TypeId} {cs cs' : Array Value} {l l' : List (Nat × Nat × TypeId × Array Value)} (h : VarAt l q g t cs cs' l') : VarAt (x :: l) q g t cs cs' (x :: l')
theorem VarAt.mem {q g : Nat} {t : TypeId} {cs cs' : Array Value} {l l' : List (Nat × Nat × TypeId × Array Value)} (h : VarAt l q g t cs cs' l') : (q, g, t, cs) ∈ l := by
  induction h with
  | head => exact List.mem_cons_self
  | tail h ih => exact List.mem_cons_of_mem _ ih
theorem VarAt.turn {j q g : Nat} {us : List Value} {t : TypeId} {cs cs' : Array Value} {l l' : List (Nat × Nat × TypeId × Array Value)} (h : VarAt l q g t cs cs' l') (hs : j + us.length ≤ cs.size) (hc : cs'.toList = cs.toList.take j ++ us ++ cs.toList.drop (j + us.length)) (nd : (l.map (·.2.1)).Nodup) : upd g j us l = l' := by
  have hne : ∀ {l : List (Nat × Nat × TypeId × Array Value)}, g ∉ l.map (·.2.1) → upd g j us l = l := fun {l} hn => by
    unfold upd
    conv => rhs; rw [← List.map_id l]
    refine List.map_congr_left fun e he => ?_
    rw [if_neg (fun q => hn (List.mem_map.2 ⟨e, he, q⟩))]
    rfl
  have e : setR j us cs = cs' := by
    rw [setR_row hs]
    apply Array.ext'
    rw [hc]
  induction h with
  | head =>
    simp only [List.map_cons, List.nodup_cons] at nd
    show (if _ then _ else _) :: upd _ j us _ = _
    rw [if_pos rfl, hne nd.1, e]
  | tail h ih =>
    simp only [List.map_cons, List.nodup_cons] at nd
    have hx := nd.1
    have := ih hs hc nd.2 hne e
    show (if _ then _ else _) :: upd _ j us _ = _
    rw [this, if_neg (fun q2 => hx (by rw [q2]; exact List.mem_map.2 ⟨_, h.mem, rfl⟩))]
theorem ko_put {t e : TypeId} {x y : Operand} {q g j : Nat} {u : Value} {cs cs' : Array Value} {l0 l' : List (Nat × Nat × TypeId × Array Value)} (ho : o.op = .store t x y) (hN : o.dst = none) (hw : Region.wanted o (yielded ops a.tmps) = true) (hx : a.eval x = .pointer (some ⟨g, j, none⟩)) (hv : a.eval y = u) (ha0 : VarAt F.var q g e cs cs l0) (hq : depV ops k q = true) (hs : j + u.cells.toList.length ≤ cs.size) (hcs : cs'.toList = cs.toList.take j ++ u.cells.toList ++ cs.toList.drop (j + u.cells.toList.length)) (ha : VarAt F.var q g e cs cs' l') (hl : ∀ q, q ∈ F.log → apartR q (g, j, u.cells.toList.length)) (ht : (P.info? t).map (·.size) = some u.cells.size) (h1 : ∀ q ∈ u.cells.toList, q.oneCell' = true)
    (h : wpO P ops C Q (k + 1) rest a { F with var := l', log := (g, j, u.cells.toList.length) :: F.log }) : wpO P ops C Q k (o :: rest) a F := by
  refine ⟨.put g j u.cells.toList, .inl ⟨hw, ⟨⟨_, ha.mem, rfl, hq, hs⟩, hl⟩, fun W hC hd => ⟨⟨t, x, y, ho, hx, by rw [hv]⟩, ?_⟩⟩, fun z hz => ?_⟩
  · obtain ⟨cur, s1, s2⟩ := hd.2 _ ha.mem hq
    have hr := run_store_run (P := P) (w := W) (g := g) (o := j) (e := e) (cur := cur) t u u.cells.toList s1 rfl (by rw [ht, Array.length_toList]) (by rw [s2]; exact hs) h1
    unfold execOp
    simp only [ho, hx, hv, hr, Sem.run_bind, Sem.run_pure, Result.andThen_ok]
    first | exact ⟨rfl, rfl⟩ | exact rfl | trivial
  · have e1 := ha.turn hs hcs (by have := (sep_less hz.1).2; exact this)
    have e2 : (Res.put g j u.cells.toList).facts k z F = { F with var := l', log := (g, j, u.cells.toList.length) :: F.log } := by
      show Facts.mk _ _ _ = _
      rw [e1]
    rw [e2, hN]
    exact h
theorem ko_call (f : FuncId) (args : Array Value) {fn : Func} {as_ : Array Operand} {ts : Array TypeId} (hop : o.op = .call { callee := .value (.func f), args := as_, argTypes := ts }) (hw : Region.wanted o (yielded ops a.tmps) = true) (hf : P.funcs[f]? = some fn) (hname : (fn.name == "runtime.NumGoroutine") = false) (hb : fn.body.isSome = true) (hi : P.inits.idxOf? f = none) (hargs : as_.map a.eval = args)
    (hc : ∀ W, C W → depH ops k F W → Calls P f args W fun e w' => e = .returned v ∧ Below W.heap.size W w')
    (h : wpO P ops C Q (k + 1) rest (a.put o.dst v) F) : wpO P ops C Q k (o :: rest) a F := by
  refine ⟨.val v, .inl ⟨hw, trivial, fun W hC hd => ⟨by unfold kindO; rw [hop]; show (0 : Nat) ≠ 1; decide, ?_⟩⟩, fun _ _ => h⟩
  have he := enters_ hf hname hb args W
  have hrun : (execOp a.eval o).run P W = .ok (.enter f args) W := by
    unfold execOp
    simp [hop, resolve, Deferred.ofValue, invoke, Act.eval, hargs, he]
  rw [hrun]
  exact ⟨rfl, hi, hc W hC hd⟩
theorem depH.hd {j x : Nat} {ob : Obj} {fro : List (Nat × Nat × Obj)} {vr : List (Nat × Nat × TypeId × Array Value)} {lg : List (Nat × Nat × Nat)} {W : World} (h : depH ops k ⟨(j, x, ob) :: fro, vr, lg⟩ W) (hd : depB ops k j = true) : W.heap[x]? = some ob := h.1 _ List.mem_cons_self hd
theorem depH.tl {q : Nat × Nat × Obj} {fro : List (Nat × Nat × Obj)} {vr : List (Nat × Nat × TypeId × Array Value)} {lg : List (Nat × Nat × Nat)} {W : World} (h : depH ops k ⟨q :: fro, vr, lg⟩ W) : depH ops k ⟨fro, vr, lg⟩ W := ⟨fun p hp => h.1 p (List.mem_cons_of_mem _ hp), h.2⟩
theorem ko_end (h : Q a F) : wpO P ops C Q k [] a F := h
end
theorem results_c {P : Program} {fn : Func} {q : Tmp} {ty : TypeId} (h : fn.results = #[.cell q ty]) (tmps : Array Value) (w : World) (g : Nat) (t : TypeId) (cs : Array Value) (fr : Nat × Nat) (d : TypeDesc)
    (hp : tmps.getD q undef = .pointer (some ⟨g, 0, none⟩)) (hg : w.heap[g]? = some (.cells cs t fr))
    (hu : P.underlying ty = some d) (hd : (match d with | .struct _ | .array _ _ => true | _ => false) = true) (hi : (P.info? ty).map (·.size) = some cs.size) :
    (results fn tmps).run P w = .ok (.agg cs) w := by
  have hp' : tmps[q]?.getD undef = .pointer (some ⟨g, 0, none⟩) := by simpa using hp
  simp [results, h, hp', asAddr, run_loadVar_row w g t ty cs fr d hg hu hd hi]
theorem ints_of_block {W : World} {x : Nat} {t : TypeId} {l : List Int} (h : W.heap[x]? = some (.cells (l.map (Value.int .i64)).toArray t (0, 0))) (hl : l.length ≤ 9223372036854775807) : Kd.C (Kd.int .i64) W (some ⟨x, 0, none⟩) l.length l := by
  refine ⟨rfl, hl, fun _ => ⟨_, rfl, fun j q hq => ?_⟩⟩
  refine ⟨[.int .i64 q], rfl, rfl, fun i u hu => ?_⟩
  match i, hu with
  | 0, hu =>
    have e : Value.int .i64 q = u := by simpa using hu
    rw [← e]
    have := blk_cell h j
    show W.cell? ((⟨x, 0, none⟩ : Addr).add (j * 1 + 0)) = _
    rw [show ((⟨x, 0, none⟩ : Addr).add (j * 1 + 0)) = ⟨x, j, none⟩ by
      unfold Addr.add
      split
      · rename_i h0; simp at h0; rw [h0]
      · simp, this]
    simp [hq]
end Go.Proofs.YtbmfgcekglgliaaKr

namespace Go.Proofs.YtbmfgcekglgliaaPl
open Go.RowKit Go.Proofs.YtbmfgcekglgliaaW.PrintWords Go.Proofs.YtbmfgcekglgliaaW.PrintMore
def clip (x : Int) : Int := if x < -2305843009213693952 then -2305843009213693952 else if x > 2305843009213693952 then 2305843009213693952 else x
theorem clip_bd (x : Int) : -2305843009213693952 ≤ clip x ∧ clip x ≤ 2305843009213693952 := by unfold clip; split <;> (try split) <;> omega
theorem clip_id {x : Int} (h : -2305843009213693952 ≤ x) (h2 : x ≤ 2305843009213693952) : clip x = x := by unfold clip; rw [if_neg (by omega), if_neg (by omega)]
theorem clip_clip (x : Int) : clip (clip x) = clip x := clip_id (clip_bd x).1 (clip_bd x).2
theorem clip_mono {x y : Int} (h : x ≤ y) : clip x ≤ clip y := by unfold clip; repeat' split <;> omega
theorem wrap_id {x : Int} (h : -9223372036854775808 ≤ x) (h2 : x ≤ 9223372036854775807) : wrap64 x = x := by unfold wrap64; omega
def one (c : Int) : Int := if clip c < 1 then 1 else clip c
theorem one_bd (c : Int) : 1 ≤ one c ∧ one c ≤ 2305843009213693952 := by have := clip_bd c; unfold one; split <;> omega
def dv (a c : Int) : Int := clip a / one c
def md (a c : Int) : Int := clip a % one c
theorem tdown {a c : Int} (hc : 0 < c) : (a.tmod c < 0 → a.tdiv c - 1 = a / c ∧ a.tmod c + c = a % c) ∧ (¬ a.tmod c < 0 → a.tdiv c = a / c ∧ a.tmod c = a % c) := by
  have h1 : c * a.tdiv c + a.tmod c = a := Int.mul_tdiv_add_tmod a c
  have h3 : a.tmod c < c := Int.tmod_lt_of_pos a hc
  have h4 : -c < a.tmod c := by
    have := Int.lt_tmod_of_pos a hc
    omega
  constructor
  · intro h
    have := (Int.ediv_emod_unique (a := a) (r := a.tmod c + c) (q := a.tdiv c - 1) hc).2 ⟨by rw [Int.mul_sub]; omega, by omega, by omega⟩
    exact ⟨this.1.symm, this.2.symm⟩
  · intro h
    have := (Int.ediv_emod_unique (a := a) (r := a.tmod c) (q := a.tdiv c) hc).2 ⟨by omega, by omega, by omega⟩
    exact ⟨this.1.symm, this.2.symm⟩
theorem tdiv_bd {a c : Int} (hc : 1 ≤ c) (h1 : -2305843009213693952 ≤ a) (h2 : a ≤ 2305843009213693952) : -2305843009213693952 ≤ a.tdiv c ∧ a.tdiv c ≤ 2305843009213693953 := by
  have e1 : -2305843009213693952 ≤ a / c := Int.le_ediv_of_mul_le (by omega) (by
      have : -2305843009213693952 * c ≤ -2305843009213693952 * 1 := Int.mul_le_mul_of_nonpos_left (by omega) (by omega)
      omega)
  have e2 : a / c ≤ 2305843009213693952 := by
    refine Int.le_trans (Int.ediv_le_ediv (by omega) h2) ?_
    exact Int.ediv_le_self _ (by omega)
  have h := tdown (a := a) (c := c) (by omega)
  by_cases g : a.tmod c < 0
  · have := h.1 g; omega
  · have := h.2 g; omega
theorem tmod_bd {a c : Int} (hc : 1 ≤ c) : -c < a.tmod c ∧ a.tmod c < c := ⟨by have := Int.lt_tmod_of_pos a (show 0 < c by omega); omega, Int.tmod_lt_of_pos a (by omega)⟩
theorem drop_at {α : Type} (d : α) (l : List α) (i : Int) (h0 : 0 ≤ i) (h1 : i < (l.length : Int)) : l.drop i.toNat = l.getD i.toNat d :: l.drop (i + 1).toNat := by
  have hl : i.toNat < l.length := by omega
  rw [show (i + 1).toNat = i.toNat + 1 by omega, List.getD_eq_getElem?_getD, List.getElem?_eq_getElem hl]
  exact List.drop_eq_getElem_cons hl
theorem drop_end {α : Type} (l : List α) (i : Int) (h : (l.length : Int) ≤ i) : l.drop i.toNat = [] := List.drop_eq_nil_of_le (by omega)
def IsNext (D : Int) (l : List Int) (r : Int) : Prop :=
  (r = D + 1 ∧ ∀ x, x ∈ l → ¬ (0 ≤ x ∧ x < D)) ∨ (∃ m, m ∈ l ∧ 0 ≤ m ∧ m < D ∧ r = m + 1 ∧ ∀ x, x ∈ l → 0 ≤ x → x < D → m ≤ x)
theorem IsNext.perm {D : Int} {l l' : List Int} {r : Int} (h : IsNext D l r) (hp : ∀ x, x ∈ l' ↔ x ∈ l) : IsNext D l' r := by
  rcases h with ⟨rfl, h⟩ | ⟨m, hm, h0, h1, rfl, h⟩
  · exact .inl ⟨rfl, fun x hx => h x ((hp x).1 hx)⟩
  · exact .inr ⟨m, (hp m).2 hm, h0, h1, rfl, fun x hx => h x ((hp x).1 hx)⟩
section
variable {α : Type} (us : α → Bool) (lt : α → α → Bool)
variable {us lt}
end
end Go.Proofs.YtbmfgcekglgliaaPl

namespace Go.Proofs.Ytbmfgcekglgliaa.G
open Go.RowKit Go.Proofs.YtbmfgcekglgliaaW.PrintWords Go.Proofs.YtbmfgcekglgliaaW.PrintLast Go.Proofs.YtbmfgcekglgliaaW.PrintMore Go.Proofs.YtbmfgcekglgliaaPl
set_option linter.unusedVariables false
set_option linter.unusedSimpArgs false
def bound (x lo hi : Int) : Int := if x < lo ∨ hi < lo then lo else if x > hi then hi else x
theorem bound_clip (x : Int) : bound x (-2305843009213693952) 2305843009213693952 = clip x := by
  unfold bound clip
  by_cases h : x < -2305843009213693952
  · rw [if_pos (.inl h), if_pos h]
  · rw [if_neg (by omega), if_neg h]
def ssub (a b : Int) : Int := clip (clip a - clip b)
def sneg (a : Int) : Int := -clip a
def sabs (a : Int) : Int := if a < 0 then sneg a else clip a
theorem sabs_bd (a : Int) : 0 ≤ sabs a ∧ sabs a ≤ 2305843009213693952 := by
  have := clip_bd a
  unfold sabs sneg
  split
  · have : clip a ≤ 0 := by unfold clip; repeat' split <;> omega
    omega
  · have : 0 ≤ clip a := by unfold clip; repeat' split <;> omega
    omega
def smul (a b : Int) : Int :=
  let x := sabs a
  let y := sabs b
  let p := if x = 0 ∨ y ≤ 2305843009213693952 / x then x * y else 2305843009213693952
  if decide (a < 0) = decide (b < 0) then p else -p
def sadd (l : List Int) : Int := l.foldl (fun n x => clip (n + clip x)) 0
def smax (l : List Int) : Int := l.foldl (fun n x => if n < clip x then clip x else n) (-2305843009213693952)
set_option maxHeartbeats 1000000 in
theorem Bound_calls (x lo hi : Int) (w : World) : Calls Try.prog 32 #[.int .i64 x, .int .i64 lo, .int .i64 hi] w fun e w' => e = .returned (.int .i64 (bound x lo hi)) ∧ w' = w := by
  by_cases h1 : x < lo
  · have hb := Lib.hid (show bound x lo hi = lo by unfold bound; rw [if_pos (.inl h1)])
    have d1 : decide (x < lo) = true := decide_eq_true h1
    clear h1
    go_enter Try.func32, Try.ntmps32
    go_wp2
    go_ret
    exact ⟨(by rw [hb.out]; try rfl), rfl⟩
  · by_cases h2 : hi < lo
    · have hb := Lib.hid (show bound x lo hi = lo by unfold bound; rw [if_pos (.inr h2)])
      have d1 : decide (x < lo) = false := decide_eq_false h1
      have d2 : decide (hi < lo) = true := decide_eq_true h2
      clear h1 h2
      go_enter Try.func32, Try.ntmps32
      go_wp2
      go_ret
      exact ⟨(by rw [hb.out]; try rfl), rfl⟩
    · have d1 : decide (x < lo) = false := decide_eq_false h1
      have d2 : decide (hi < lo) = false := decide_eq_false h2
      by_cases h3 : hi < x
      · have hb := Lib.hid (show bound x lo hi = hi by unfold bound; rw [if_neg (by omega), if_pos h3])
        have d3 : decide (hi < x) = true := decide_eq_true h3
        clear h1 h2 h3
        go_enter Try.func32, Try.ntmps32
        go_wp2
        go_ret
        exact ⟨(by rw [hb.out]; try rfl), rfl⟩
      · have hb := Lib.hid (show bound x lo hi = x by unfold bound; rw [if_neg (by omega), if_neg (by omega)])
        have d3 : decide (hi < x) = false := decide_eq_false h3
        clear h1 h2 h3
        go_enter Try.func32, Try.ntmps32
        go_wp2
        go_ret
        exact ⟨(by rw [hb.out]; try rfl), rfl⟩
theorem Clip_calls (x : Int) (w : World) : Calls Try.prog 31 #[.int .i64 x] w fun e w' => e = .returned (.int .i64 (clip x)) ∧ w' = w := by
  have hb := Lib.hid (bound_clip x)
  go_enter Try.func31, Try.ntmps31
  go_wp2_with (go_at_call 32; refine (Bound_calls _ _ _ _).mono ?_; rintro e w' ⟨rfl, rfl⟩)
  go_ret
  exact ⟨by rw [← hb.out]; rfl, rfl⟩
theorem Neg_calls (x : Int) (w : World) : Calls Try.prog 43 #[.int .i64 x] w fun e w' => e = .returned (.int .i64 (sneg x)) ∧ w' = w := by
  have hb := clip_bd x
  have hb1 := hb.1
  have hb2 := hb.2
  have hn := Lib.hid (show sneg x = -clip x from rfl)
  clear hb
  go_enter Try.func43, Try.ntmps43
  go_wp2_with (go_at_call 31; refine (Clip_calls _ _).mono ?_; rintro e w' ⟨rfl, rfl⟩)
  go_ret
  exact ⟨(by rw [hn.out]; try rfl), rfl⟩
theorem Abs_calls (x : Int) (w : World) : Calls Try.prog 46 #[.int .i64 x] w fun e w' => e = .returned (.int .i64 (sabs x)) ∧ w' = w := by
  by_cases h1 : x < 0
  · have hb := Lib.hid (show sabs x = sneg x by unfold sabs; rw [if_pos h1])
    have d1 : decide (x < 0) = true := decide_eq_true h1
    clear h1
    go_enter Try.func46, Try.ntmps46
    go_wp2_with (go_at_call 43; refine (Neg_calls _ _).mono ?_; rintro e w' ⟨rfl, rfl⟩)
    go_ret
    exact ⟨(by rw [hb.out]; try rfl), rfl⟩
  · have hb := Lib.hid (show sabs x = clip x by unfold sabs; rw [if_neg h1])
    have d1 : decide (x < 0) = false := decide_eq_false h1
    clear h1
    go_enter Try.func46, Try.ntmps46
    go_wp2_with (go_at_call 31; refine (Clip_calls _ _).mono ?_; rintro e w' ⟨rfl, rfl⟩)
    go_ret
    exact ⟨(by rw [hb.out]; try rfl), rfl⟩
set_option maxHeartbeats 1000000 in
theorem Sub_calls (x y : Int) (w : World) : Calls Try.prog 37 #[.int .i64 x, .int .i64 y] w fun e w' => e = .returned (.int .i64 (ssub x y)) ∧ w' = w := by
  have h1 := (clip_bd x).1
  have h2 := (clip_bd x).2
  have h3 := (clip_bd y).1
  have h4 := (clip_bd y).2
  have hn := Lib.hid (show ssub x y = clip (clip x - clip y) from rfl)
  go_enter Try.func37, Try.ntmps37
  go_wp2_with (go_at_call 31; refine (Clip_calls _ _).mono ?_; rintro e w' ⟨rfl, rfl⟩)
  go_ret
  exact ⟨(by rw [hn.out]; try rfl), rfl⟩
theorem smul_prod {a b : Int} (h : sabs a = 0 ∨ sabs b ≤ 2305843009213693952 / sabs a) : 0 ≤ sabs a * sabs b ∧ sabs a * sabs b ≤ 2305843009213693952 := by
  have h1 := sabs_bd a
  have h3 := sabs_bd b
  refine ⟨Int.mul_nonneg h1.1 h3.1, ?_⟩
  rcases h with h | h
  · rw [h]; omega
  · by_cases h0 : sabs a = 0
    · rw [h0]; omega
    · have h6 : sabs a * sabs b ≤ sabs a * (2305843009213693952 / sabs a) := Int.mul_le_mul_of_nonneg_left h h1.1
      have h7 := Int.mul_ediv_self_le (x := 2305843009213693952) (k := sabs a) h0
      omega
set_option maxHeartbeats 4000000 in
theorem Mul_calls (a b : Int) (w : World) : Calls Try.prog 27 #[.int .i64 a, .int .i64 b] w fun e w' => e = .returned (.int .i64 (smul a b)) ∧ w' = w := by
  have h1 := (sabs_bd a).1
  have h2 := (sabs_bd a).2
  have h3 := (sabs_bd b).1
  have h4 := (sabs_bd b).2
  have hn : smul a b = if decide (a < 0) = decide (b < 0) then (if sabs a = 0 ∨ sabs b ≤ 2305843009213693952 / sabs a then sabs a * sabs b else 2305843009213693952) else -(if sabs a = 0 ∨ sabs b ≤ 2305843009213693952 / sabs a then sabs a * sabs b else 2305843009213693952) := rfl
  obtain ⟨ba, hba⟩ : ∃ c, decide (a < 0) = c := ⟨_, rfl⟩
  obtain ⟨bb, hbb⟩ : ∃ c, decide (b < 0) = c := ⟨_, rfl⟩
  rw [hba, hbb] at hn
  by_cases hx : sabs a = 0
  · obtain ⟨p0, p1⟩ := smul_prod (b := b) (.inl hx)
    have dx : (sabs a == 0) = true := beq_iff_eq.2 hx
    simp only [if_pos (Or.inl (b := sabs b ≤ 2305843009213693952 / sabs a) hx)] at hn
    have HN := Lib.hid hn
    clear hn hx
    cases ba <;> cases bb
    all_goals
      go_enter Try.func27, Try.ntmps27
      go_wp2_with (go_at_call 46; refine (Abs_calls _ _).mono ?_; rintro e w' ⟨rfl, rfl⟩)
      go_ret
      exact ⟨(by rw [HN.out]; try rfl), rfl⟩
  · have dx : (sabs a == 0) = false := beq_eq_false_iff_ne.2 hx
    have hx1 : 1 ≤ sabs a := by omega
    have hq : (2305843009213693952 : Int).tdiv (sabs a) = 2305843009213693952 / sabs a := Int.tdiv_eq_ediv_of_nonneg (by omega)
    have hq0 : 0 ≤ (2305843009213693952 : Int) / sabs a := Int.ediv_nonneg (by omega) (by omega)
    have hq1 : (2305843009213693952 : Int) / sabs a ≤ 2305843009213693952 := Int.ediv_le_self _ (by omega)
    by_cases hy : sabs b ≤ 2305843009213693952 / sabs a
    · obtain ⟨p0, p1⟩ := smul_prod (a := a) (b := b) (.inr hy)
      have dy : decide (sabs b ≤ 2305843009213693952 / sabs a) = true := decide_eq_true hy
      simp only [if_pos (Or.inr (a := sabs a = 0) hy)] at hn
      have HN := Lib.hid hn
      clear hn hy hx
      cases ba <;> cases bb
      all_goals
        go_enter Try.func27, Try.ntmps27
        go_wp2_with (go_at_call 46; refine (Abs_calls _ _).mono ?_; rintro e w' ⟨rfl, rfl⟩)
        go_ret
        exact ⟨(by rw [HN.out]; try rfl), rfl⟩
    · have dy : decide (sabs b ≤ 2305843009213693952 / sabs a) = false := decide_eq_false hy
      have hc : ¬ (sabs a = 0 ∨ sabs b ≤ 2305843009213693952 / sabs a) := fun h => h.elim hx hy
      simp only [if_neg hc] at hn
      have HN := Lib.hid hn
      clear hn hy hx
      cases ba <;> cases bb
      all_goals
        go_enter Try.func27, Try.ntmps27
        go_wp2_with (go_at_call 46; refine (Abs_calls _ _).mono ?_; rintro e w' ⟨rfl, rfl⟩)
        go_ret
        exact ⟨(by rw [HN.out]; try rfl), rfl⟩
end Go.Proofs.Ytbmfgcekglgliaa.G

namespace Go.Proofs.Ytbmfgcekglgliaa.G
open Go.RowKit Go.Proofs.YtbmfgcekglgliaaW.PrintWords Go.Proofs.YtbmfgcekglgliaaW.PrintLast Go.Proofs.YtbmfgcekglgliaaW.PrintMore Go.Proofs.YtbmfgcekglgliaaPl
set_option linter.unusedVariables false
set_option linter.unusedSimpArgs false
theorem getD_cell {l : List Int} {i : Nat} (h : i < l.length) : rd l (i : Int) = l[i] := by
  unfold rd; simp [List.getD_eq_getElem?_getD, h]
theorem sadd_bd (l : List Int) : -2305843009213693952 ≤ sadd l ∧ sadd l ≤ 2305843009213693952 := by
  have : ∀ (l : List Int) (n : Int), -2305843009213693952 ≤ n → n ≤ 2305843009213693952 → -2305843009213693952 ≤ l.foldl (fun n x => clip (n + clip x)) n ∧ l.foldl (fun n x => clip (n + clip x)) n ≤ 2305843009213693952 := by
    intro l
    induction l with
    | nil => intro n h1 h2; exact ⟨h1, h2⟩
    | cons a l ih => intro n _ _; exact ih _ (clip_bd _).1 (clip_bd _).2
  exact this l 0 (by omega) (by omega)
theorem sadd_snoc (l : List Int) (x : Int) : sadd (l ++ [x]) = clip (sadd l + clip x) := by unfold sadd; rw [List.foldl_append]; rfl
theorem smax_snoc (l : List Int) (x : Int) : smax (l ++ [x]) = (if smax l < clip x then clip x else smax l) := by unfold smax; rw [List.foldl_append]; rfl
set_option maxHeartbeats 1000000 in
theorem Add_calls (A : Option Addr) (c : Nat) (l : List Int) (w : World) (hr : Kd.C (Kd.int .i64) w A l.length l) :
    Calls Try.prog 26 #[.slice A l.length c] w fun e w' => e = .returned (.int .i64 (sadd l)) ∧ w' = w := by
  have R := Lib.hid hr
  have hm : l.length ≤ 9223372036854775807 := hr.2.1
  obtain ⟨n, hn⟩ : ∃ n, l.length = n := ⟨_, rfl⟩
  have HN := Lib.hid hn
  rw [hn] at hm ⊢
  clear hr hn
  go_enter Try.func26, Try.ntmps26
  go_wp2
  go_loop [3, 8] (fun v3 v8 => ∃ k : Nat, k ≤ n ∧ v8 = .int .i64 k ∧ v3 = .int .i64 (sadd (l.take k))) (fun _ v8 => n - (intOf v8).toNat)
  case atStart => exact ⟨0, by omega, rfl, rfl⟩
  case round =>
    obtain ⟨k, hk, rfl, rfl⟩ := hrel
    have hb1 := (sadd_bd (l.take k)).1
    have hb2 := (sadd_bd (l.take k)).2
    by_cases hlt : k < n
    · have hkl : k < l.length := by rw [HN.out]; exact hlt
      have hk1 : (k : Int) < (n : Int) := by omega
      have hs1 : -9223372036854775808 ≤ (k : Int) + 1 := by omega
      have hs2 : (k : Int) + 1 ≤ 9223372036854775807 := by omega
      obtain ⟨ad, e, hc⟩ := Kd.at_int R.out (k : Int) (by omega) (by omega)
      cases e
      rw [getD_cell hkl, Int.toNat_natCast] at hc
      have HT := Lib.hid (show sadd (l.take (k + 1)) = clip (sadd (l.take k) + clip l[k]) by rw [List.take_succ_eq_append_getElem hkl, sadd_snoc])
      have hc1 := (clip_bd l[k]).1
      have hc2 := (clip_bd l[k]).2
      generalize sadd (l.take k) = s at hb1 hb2 HT ⊢
      generalize l[k] = x at hc HT hc1 hc2
      go_wp2_with (go_at_call 31; refine (Clip_calls _ _).mono ?_; rintro e w' ⟨rfl, rfl⟩)
      go_round
      case rel => exact ⟨k + 1, by omega, by simp, by rw [HT.out]⟩
      case measure => simp [intOf]; omega
    · obtain rfl : k = n := by omega
      have HT := Lib.hid (show sadd l = sadd (l.take k) by rw [List.take_of_length_le (by rw [HN.out]; exact Nat.le_refl _)])
      go_wp2
      go_ret
      exact ⟨(by rw [HT.out]; try rfl), rfl⟩
set_option maxHeartbeats 1000000 in
theorem Max_calls (A : Option Addr) (c : Nat) (l : List Int) (w : World) (hr : Kd.C (Kd.int .i64) w A l.length l) :
    Calls Try.prog 62 #[.slice A l.length c] w fun e w' => e = .returned (.int .i64 (smax l)) ∧ w' = w := by
  have R := Lib.hid hr
  have hm : l.length ≤ 9223372036854775807 := hr.2.1
  obtain ⟨n, hn⟩ : ∃ n, l.length = n := ⟨_, rfl⟩
  have HN := Lib.hid hn
  rw [hn] at hm ⊢
  clear hr hn
  go_enter Try.func62, Try.ntmps62
  go_wp2
  go_loop [3, 8] (fun v3 v8 => ∃ k : Nat, k ≤ n ∧ v8 = .int .i64 k ∧ v3 = .int .i64 (smax (l.take k))) (fun _ v8 => n - (intOf v8).toNat)
  case atStart => exact ⟨0, by omega, rfl, rfl⟩
  case round =>
    obtain ⟨k, hk, rfl, rfl⟩ := hrel
    by_cases hlt : k < n
    · have hkl : k < l.length := by rw [HN.out]; exact hlt
      have hk1 : (k : Int) < (n : Int) := by omega
      have hs1 : -9223372036854775808 ≤ (k : Int) + 1 := by omega
      have hs2 : (k : Int) + 1 ≤ 9223372036854775807 := by omega
      obtain ⟨ad, e, hc⟩ := Kd.at_int R.out (k : Int) (by omega) (by omega)
      cases e
      rw [getD_cell hkl, Int.toNat_natCast] at hc
      have HT := Lib.hid (show smax (l.take (k + 1)) = if smax (l.take k) < clip l[k] then clip l[k] else smax (l.take k) by rw [List.take_succ_eq_append_getElem hkl, smax_snoc])
      generalize smax (l.take k) = s at HT ⊢
      generalize l[k] = x at hc HT
      go_wp2_with (go_at_call 31; refine (Clip_calls _ _).mono ?_; rintro e w' ⟨rfl, rfl⟩)
      go_round
      case rel => exact ⟨k + 1, by omega, by simp, by rw [HT.out]; try rfl⟩
      case measure => simp [intOf]; omega
    · obtain rfl : k = n := by omega
      have HT := Lib.hid (show smax l = smax (l.take k) by rw [List.take_of_length_le (by rw [HN.out]; exact Nat.le_refl _)])
      go_wp2
      go_ret
      exact ⟨(by rw [HT.out]; try rfl), rfl⟩
theorem Add2 {x t : Nat} {a b : Int} {w : World} (h : w.heap[x]? = some (.cells #[.int .i64 a, .int .i64 b] t (0, 0))) : Calls Try.prog 26 #[.slice (some ⟨x, 0, none⟩) 2 2] w fun e w' => e = .returned (.int .i64 (sadd [a, b])) ∧ Below w.heap.size w w' :=
  (Add_calls (some ⟨x, 0, none⟩) 2 [a, b] w (Go.Proofs.YtbmfgcekglgliaaKr.ints_of_block (l := [a, b]) h (by show _ ≤ _; simp))).mono fun e w' ⟨h1, h2⟩ => ⟨h1, h2 ▸ Below.refl _ _⟩
theorem Add3 {x t : Nat} {a b c : Int} {w : World} (h : w.heap[x]? = some (.cells #[.int .i64 a, .int .i64 b, .int .i64 c] t (0, 0))) : Calls Try.prog 26 #[.slice (some ⟨x, 0, none⟩) 3 3] w fun e w' => e = .returned (.int .i64 (sadd [a, b, c])) ∧ Below w.heap.size w w' :=
  (Add_calls (some ⟨x, 0, none⟩) 3 [a, b, c] w (Go.Proofs.YtbmfgcekglgliaaKr.ints_of_block (l := [a, b, c]) h (by show _ ≤ _; simp))).mono fun e w' ⟨h1, h2⟩ => ⟨h1, h2 ▸ Below.refl _ _⟩
theorem Max2 {x t : Nat} {a b : Int} {w : World} (h : w.heap[x]? = some (.cells #[.int .i64 a, .int .i64 b] t (0, 0))) : Calls Try.prog 62 #[.slice (some ⟨x, 0, none⟩) 2 2] w fun e w' => e = .returned (.int .i64 (smax [a, b])) ∧ Below w.heap.size w w' :=
  (Max_calls (some ⟨x, 0, none⟩) 2 [a, b] w (Go.Proofs.YtbmfgcekglgliaaKr.ints_of_block (l := [a, b]) h (by show _ ≤ _; simp))).mono fun e w' ⟨h1, h2⟩ => ⟨h1, h2 ▸ Below.refl _ _⟩
theorem ret_below {P : Program} {f : FuncId} {args : Array Value} {v : Value} {w : World} (h : Calls P f args w fun e w' => e = .returned v ∧ w' = w) : Calls P f args w fun e w' => e = .returned v ∧ Below w.heap.size w w' :=
  h.mono fun e w' ⟨h1, h2⟩ => ⟨h1, h2 ▸ Below.refl _ _⟩
end Go.Proofs.Ytbmfgcekglgliaa.G

namespace Go.Proofs.Ytbmfgcekglgliaa.G
open Go.RowKit Go.Proofs.YtbmfgcekglgliaaW.PrintWords Go.Proofs.YtbmfgcekglgliaaW.PrintLast Go.Proofs.YtbmfgcekglgliaaW.PrintMore Go.Proofs.YtbmfgcekglgliaaPl Go.Proofs.YtbmfgcekglgliaaEm Go.Proofs.YtbmfgcekglgliaaKr
set_option linter.unusedVariables false
set_option linter.unusedSimpArgs false
set_option maxHeartbeats 2000000 in
set_option maxRecDepth 100000 in
theorem Shift_calls (a b lo hi : Int) (w : World) : Calls Try.prog 42 #[.agg #[.int .i64 a, .int .i64 b], .int .i64 lo, .int .i64 hi] w fun e w' => e = .returned (.agg #[.int .i64 (sadd [a, lo]), .int .i64 (sadd [b, hi])]) ∧ Below w.heap.size w w' := by
  have H := Fr.start0 (M := fun _ => False) (A := fun _ => False) (w := w) (p := fun _ => True) (fun _ h => h.elim) (fun _ _ => trivial)
  go_enter Try.func42, Try.ntmps42
  go_wp2_with (first
    | ((with_reducible refine gate_dst (N := 3) rfl ?_); refine fr_box H rfl rfl rfl ?_; intro g3 w3 H1; clear H; have H := H1; clear H1)
    | ((with_reducible refine gate_dst (N := 6) rfl ?_); refine fr_new H (N := 6) rfl rfl (cs := #[.int .i64 0, .int .i64 0]) (t := 25) ?hr ?_; (case hr => first | (go_simp; done) | (go_simp; rfl)); intro g6 w6 H1; clear H; have H := H1; clear H1)
    | ((with_reducible refine gate_dst (N := 8) rfl ?_); refine fr_get H rfl rfl rfl (by repeat (first | exact At.head | apply At.tail)) Try.underlying3 rfl (by simp only [List.getElem?_toArray, List.getElem?_cons_succ, List.getElem?_cons_zero]; rfl) ?_)
    | ((with_reducible refine gate_dst (N := 13) rfl ?_); refine fr_get H rfl rfl rfl (by repeat (first | exact At.head | apply At.tail)) Try.underlying3 rfl (by simp only [List.getElem?_toArray, List.getElem?_cons_succ, List.getElem?_cons_zero]; rfl) ?_)
    | ((with_reducible refine gate_store (t := 25) (p := 6) rfl ?_); refine fr_put H rfl rfl rfl rfl rfl (by repeat (first | exact At.head | apply At.tail)) (by rfl) (by kernel_rfl) (by simp [Value.oneCell']) ?_; intro w6_ H1; clear H; have H := H1; clear H1)
    | fail)
  refine ko_region1 H (by simp only [List.length_cons, List.length_nil, Nat.reduceAdd]; rfl) (g := g6) (by repeat (first | exact Take.head | apply Take.tail)) (by kernel_rfl) (by kernel_rfl) (fun HR => ?_)
  repeat (first
    | ((with_reducible refine kg_call (f := 26) rfl ?_); refine ko_call 26 _ rfl (by rfl) Try.func26 (by kernel_rfl) rfl (by kernel_rfl) (by simp only [List.map_toArray, List.map_cons, List.map_nil]; rfl) (fun W hC hd => Add2 (by first | exact depH.hd hd (by kernel_rfl) | exact depH.hd (depH.tl hd) (by kernel_rfl) | exact depH.hd (depH.tl (depH.tl hd)) (by kernel_rfl))) ?_; (try simp only [Act.put, List.setIfInBounds_toArray, List.set_cons_zero, List.set_cons_succ, Nat.reduceAdd]))
    | ((with_reducible refine kg_call (f := 37) rfl ?_); refine ko_call 37 _ rfl (by rfl) Try.func37 (by kernel_rfl) rfl (by kernel_rfl) (by simp only [List.map_toArray, List.map_cons, List.map_nil]; rfl) (fun W hC hd => ret_below (Sub_calls _ _ _)) ?_; (try simp only [Act.put, List.setIfInBounds_toArray, List.set_cons_zero, List.set_cons_succ, Nat.reduceAdd]))
    | ((with_reducible refine kg_call (f := 42) rfl ?_); refine ko_call 42 _ rfl (by rfl) Try.func42 (by kernel_rfl) rfl (by kernel_rfl) (by simp only [List.map_toArray, List.map_cons, List.map_nil]; rfl) (fun W hC hd => Shift_calls _ _ _ _ _) ?_; (try simp only [Act.put, List.setIfInBounds_toArray, List.set_cons_zero, List.set_cons_succ, Nat.reduceAdd]))
    | ((with_reducible refine kg_dst (N := 3) rfl ?_); refine ko_var rfl (by rfl) (fun W K hK => by go_simp; exact hK.out) ?_; intro g3; (try simp only [Act.put, List.setIfInBounds_toArray, List.set_cons_zero, List.set_cons_succ, Nat.reduceAdd]))
    | ((with_reducible refine kg_dst (N := 6) rfl ?_); refine ko_var rfl (by rfl) (fun W K hK => by go_simp; exact hK.out) ?_; intro g6; (try simp only [Act.put, List.setIfInBounds_toArray, List.set_cons_zero, List.set_cons_succ, Nat.reduceAdd]))
    | ((with_reducible refine kg_load (ty := 3) rfl ?_); refine ko_get HR rfl (by rfl) (by rfl) (by repeat (first | exact At.head | apply At.tail)) Try.underlying3 rfl (by simp only [List.getElem?_toArray, List.getElem?_cons_succ, List.getElem?_cons_zero]; rfl) ?_; (try simp only [Act.put, List.setIfInBounds_toArray, List.set_cons_zero, List.set_cons_succ, Nat.reduceAdd]))
    | ((with_reducible refine kg_dst (N := 10) rfl ?_); refine ko_row rfl (by rfl) (fun W K hK => by go_simp; exact hK.out) ?_; intro x10; (try simp only [Act.put, List.setIfInBounds_toArray, List.set_cons_zero, List.set_cons_succ, Nat.reduceAdd]))
    | ((with_reducible refine kg_dst (N := 15) rfl ?_); refine ko_row rfl (by rfl) (fun W K hK => by go_simp; exact hK.out) ?_; intro x15; (try simp only [Act.put, List.setIfInBounds_toArray, List.set_cons_zero, List.set_cons_succ, Nat.reduceAdd]))
    | ((with_reducible refine kg_store (ty := 25) rfl ?_); refine ko_put (u := .agg (List.toArray _)) rfl rfl (by rfl) (by rfl) (by rfl) (by repeat (first | exact VarAt.head | apply VarAt.tail)) (by kernel_rfl) (Nat.le_of_ble_eq_true rfl) (by simp only [Value.cells, List.take_succ_cons, List.take_zero, List.drop_succ_cons, List.drop_zero, List.cons_append, List.nil_append, List.length_cons, List.length_nil, Nat.reduceAdd, List.append_nil, List.drop_nil, List.take_nil]; rfl) (by repeat (first | exact VarAt.head | apply VarAt.tail)) (by simp [apartR, Value.cells]) (by kernel_rfl) (by simp [Value.cells, Value.oneCell']) ?_; (try simp only [Value.cells, List.length_cons, List.length_nil, Nat.reduceAdd]))
    | (refine ko_pure rfl (by rfl) (fun W K hK => by go_simp; exact hK.out) ?_; (try simp only [Act.put, List.setIfInBounds_toArray, List.set_cons_zero, List.set_cons_succ, Nat.reduceAdd]))
    | (refine ko_off (by rfl) ?_; (try simp only [Act.put, List.setIfInBounds_toArray, List.set_cons_zero, List.set_cons_succ, Nat.reduceAdd])))
  refine ko_end ?_
  intro w1 H1
  clear HR H
  have H := H1
  clear H1
  (try simp only [List.map_cons, List.map_nil, cv, List.cons_append, List.nil_append] at H)
  go_wp2
  trace_state
  refine bodyPost_ret (results_c rfl _ _ g6 25 _ (0, 0) _ rfl (H.of (by repeat (first | exact At.head | apply At.tail))) Try.underlying25 rfl (by kernel_rfl)) rfl ?_
  exact ⟨rfl, H.below⟩
structure Par where
  (N F D Be Rho De Ji Eps Mu Ho Pu Se : Int)
set_option maxHeartbeats 2000000 in
set_option maxRecDepth 100000 in
theorem Hold_calls (p : Par) (a b ticks : Int) (w : World) : Calls Try.prog 21 #[.agg #[.int .i64 p.N, .int .i64 p.F, .int .i64 p.D, .int .i64 p.Be, .int .i64 p.Rho, .int .i64 p.De, .int .i64 p.Ji, .int .i64 p.Eps, .int .i64 p.Mu, .int .i64 p.Ho, .int .i64 p.Pu, .int .i64 p.Se], .agg #[.int .i64 a, .int .i64 b], .int .i64 ticks] w fun e w' => e = .returned (.agg #[.int .i64 (sadd [a, ssub ticks p.Rho]), .int .i64 (sadd [b, sadd [ticks, p.Rho]])]) ∧ Below w.heap.size w w' := by
  have H := Fr.start0 (M := fun _ => False) (A := fun _ => False) (w := w) (p := fun _ => True) (fun _ h => h.elim) (fun _ _ => trivial)
  go_enter Try.func21, Try.ntmps21
  go_wp2_with (first
    | ((with_reducible refine gate_dst (N := 3) rfl ?_); refine fr_box H rfl rfl rfl ?_; intro g3 w3 H1; clear H; have H := H1; clear H1)
    | ((with_reducible refine gate_dst (N := 4) rfl ?_); refine fr_box H rfl rfl rfl ?_; intro g4 w4 H1; clear H; have H := H1; clear H1)
    | ((with_reducible refine gate_dst (N := 6) rfl ?_); refine fr_new H (N := 6) rfl rfl (cs := #[.int .i64 0, .int .i64 0]) (t := 25) ?hr ?_; (case hr => first | (go_simp; done) | (go_simp; rfl)); intro g6 w6 H1; clear H; have H := H1; clear H1)
    | ((with_reducible refine gate_dst (N := 7) rfl ?_); refine fr_load H rfl rfl rfl (by repeat (first | exact At.head | apply At.tail)) Try.underlying25 rfl (by kernel_rfl) ?_)
    | ((with_reducible refine gate_dst (N := 10) rfl ?_); refine fr_get H rfl rfl rfl (by repeat (first | exact At.head | apply At.tail)) Try.underlying3 rfl (by simp only [List.getElem?_toArray, List.getElem?_cons_succ, List.getElem?_cons_zero]; rfl) ?_)
    | ((with_reducible refine gate_dst (N := 14) rfl ?_); refine fr_get H rfl rfl rfl (by repeat (first | exact At.head | apply At.tail)) Try.underlying3 rfl (by simp only [List.getElem?_toArray, List.getElem?_cons_succ, List.getElem?_cons_zero]; rfl) ?_)
    | ((with_reducible refine gate_store (t := 25) (p := 6) rfl ?_); refine fr_put H rfl rfl rfl rfl rfl (by repeat (first | exact At.head | apply At.tail)) (by rfl) (by kernel_rfl) (by simp [Value.oneCell']) ?_; intro w6_ H1; clear H; have H := H1; clear H1)
    | fail)
  refine ko_region1 H (by simp only [List.length_cons, List.length_nil, Nat.reduceAdd]; rfl) (g := g6) (by repeat (first | exact Take.head | apply Take.tail)) (by kernel_rfl) (by kernel_rfl) (fun HR => ?_)
  repeat (first
    | ((with_reducible refine kg_call (f := 26) rfl ?_); refine ko_call 26 _ rfl (by rfl) Try.func26 (by kernel_rfl) rfl (by kernel_rfl) (by simp only [List.map_toArray, List.map_cons, List.map_nil]; rfl) (fun W hC hd => Add2 (by first | exact depH.hd hd (by kernel_rfl) | exact depH.hd (depH.tl hd) (by kernel_rfl) | exact depH.hd (depH.tl (depH.tl hd)) (by kernel_rfl))) ?_; (try simp only [Act.put, List.setIfInBounds_toArray, List.set_cons_zero, List.set_cons_succ, Nat.reduceAdd]))
    | ((with_reducible refine kg_call (f := 37) rfl ?_); refine ko_call 37 _ rfl (by rfl) Try.func37 (by kernel_rfl) rfl (by kernel_rfl) (by simp only [List.map_toArray, List.map_cons, List.map_nil]; rfl) (fun W hC hd => ret_below (Sub_calls _ _ _)) ?_; (try simp only [Act.put, List.setIfInBounds_toArray, List.set_cons_zero, List.set_cons_succ, Nat.reduceAdd]))
    | ((with_reducible refine kg_call (f := 42) rfl ?_); refine ko_call 42 _ rfl (by rfl) Try.func42 (by kernel_rfl) rfl (by kernel_rfl) (by simp only [List.map_toArray, List.map_cons, List.map_nil]; rfl) (fun W hC hd => Shift_calls _ _ _ _ _) ?_; (try simp only [Act.put, List.setIfInBounds_toArray, List.set_cons_zero, List.set_cons_succ, Nat.reduceAdd]))
    | ((with_reducible refine kg_dst (N := 3) rfl ?_); refine ko_var rfl (by rfl) (fun W K hK => by go_simp; exact hK.out) ?_; intro g3; (try simp only [Act.put, List.setIfInBounds_toArray, List.set_cons_zero, List.set_cons_succ, Nat.reduceAdd]))
    | ((with_reducible refine kg_dst (N := 4) rfl ?_); refine ko_var rfl (by rfl) (fun W K hK => by go_simp; exact hK.out) ?_; intro g4; (try simp only [Act.put, List.setIfInBounds_toArray, List.set_cons_zero, List.set_cons_succ, Nat.reduceAdd]))
    | ((with_reducible refine kg_dst (N := 6) rfl ?_); refine ko_var rfl (by rfl) (fun W K hK => by go_simp; exact hK.out) ?_; intro g6; (try simp only [Act.put, List.setIfInBounds_toArray, List.set_cons_zero, List.set_cons_succ, Nat.reduceAdd]))
    | ((with_reducible refine kg_load (ty := 25) rfl ?_); refine ko_sub HR (n := 2) rfl (by rfl) (by rfl) (by repeat (first | exact At.head | apply At.tail)) Try.underlying25 rfl (by kernel_rfl) (by simp only [List.toList_toArray, List.drop_succ_cons, List.drop_zero, List.take_succ_cons, List.take_zero]; rfl) (by rfl) ?_; (try simp only [Act.put, List.setIfInBounds_toArray, List.set_cons_zero, List.set_cons_succ, Nat.reduceAdd]))
    | ((with_reducible refine kg_load (ty := 3) rfl ?_); refine ko_get HR rfl (by rfl) (by rfl) (by repeat (first | exact At.head | apply At.tail)) Try.underlying3 rfl (by simp only [List.getElem?_toArray, List.getElem?_cons_succ, List.getElem?_cons_zero]; rfl) ?_; (try simp only [Act.put, List.setIfInBounds_toArray, List.set_cons_zero, List.set_cons_succ, Nat.reduceAdd]))
    | ((with_reducible refine kg_dst (N := 15) rfl ?_); refine ko_row rfl (by rfl) (fun W K hK => by go_simp; exact hK.out) ?_; intro x15; (try simp only [Act.put, List.setIfInBounds_toArray, List.set_cons_zero, List.set_cons_succ, Nat.reduceAdd]))
    | ((with_reducible refine kg_store (ty := 25) rfl ?_); refine ko_put (u := .agg (List.toArray _)) rfl rfl (by rfl) (by rfl) (by rfl) (by repeat (first | exact VarAt.head | apply VarAt.tail)) (by kernel_rfl) (Nat.le_of_ble_eq_true rfl) (by simp only [Value.cells, List.take_succ_cons, List.take_zero, List.drop_succ_cons, List.drop_zero, List.cons_append, List.nil_append, List.length_cons, List.length_nil, Nat.reduceAdd, List.append_nil, List.drop_nil, List.take_nil]; rfl) (by repeat (first | exact VarAt.head | apply VarAt.tail)) (by simp [apartR, Value.cells]) (by kernel_rfl) (by simp [Value.cells, Value.oneCell']) ?_; (try simp only [Value.cells, List.length_cons, List.length_nil, Nat.reduceAdd]))
    | (refine ko_pure rfl (by rfl) (fun W K hK => by go_simp; exact hK.out) ?_; (try simp only [Act.put, List.setIfInBounds_toArray, List.set_cons_zero, List.set_cons_succ, Nat.reduceAdd]))
    | (refine ko_off (by rfl) ?_; (try simp only [Act.put, List.setIfInBounds_toArray, List.set_cons_zero, List.set_cons_succ, Nat.reduceAdd])))
  refine ko_end ?_
  intro w1 H1
  clear HR H
  have H := H1
  clear H1
  (try simp only [List.map_cons, List.map_nil, cv, List.cons_append, List.nil_append] at H)
  go_wp2
  refine bodyPost_ret (results_c rfl _ _ g6 25 _ (0, 0) _ rfl (H.of (by repeat (first | exact At.head | apply At.tail))) Try.underlying25 rfl (by kernel_rfl)) rfl ?_
  exact ⟨rfl, H.below⟩
end Go.Proofs.Ytbmfgcekglgliaa.G

namespace Go.Proofs.Ytbmfgcekglgliaa.G
open Go.RowKit Go.Proofs.YtbmfgcekglgliaaW.PrintWords Go.Proofs.YtbmfgcekglgliaaW.PrintLast Go.Proofs.YtbmfgcekglgliaaW.PrintMore Go.Proofs.YtbmfgcekglgliaaPl Go.Proofs.YtbmfgcekglgliaaEm Go.Proofs.YtbmfgcekglgliaaKr
set_option linter.unusedVariables false
set_option linter.unusedSimpArgs false
def wayP (p : Par) (a b age : Int) : Int × Int := (sadd [a, sadd [ssub p.De p.Ji, age, sneg p.Rho]], sadd [b, sadd [p.De, age, p.Rho]])
def hopP (p : Par) : Int := sadd [p.Ji, smul 2 p.Rho]
def gateP (p : Par) : Int := smul 2 (sadd [smul 2 p.Eps, hopP p])
def widthP (p : Par) (held hops : Int) : Int := sadd [gateP p, smul (smul 2 p.Rho) held, smul (sadd [hops, 1]) (hopP p)]
def farP (p : Par) (held : Int) : Int := smul 2 (widthP p (smax [held, p.Ho]) p.D)
set_option maxHeartbeats 4000000 in
set_option maxRecDepth 100000 in
theorem Way_calls (p : Par) (a b age : Int) (w : World) : Calls Try.prog 20 #[.agg #[.int .i64 p.N, .int .i64 p.F, .int .i64 p.D, .int .i64 p.Be, .int .i64 p.Rho, .int .i64 p.De, .int .i64 p.Ji, .int .i64 p.Eps, .int .i64 p.Mu, .int .i64 p.Ho, .int .i64 p.Pu, .int .i64 p.Se], .agg #[.int .i64 a, .int .i64 b], .int .i64 age] w fun e w' => e = .returned (.agg #[.int .i64 (wayP p a b age).1, .int .i64 (wayP p a b age).2]) ∧ Below w.heap.size w w' := by
  have H := Fr.start0 (M := fun _ => False) (A := fun _ => False) (w := w) (p := fun _ => True) (fun _ h => h.elim) (fun _ _ => trivial)
  go_enter Try.func20, Try.ntmps20
  go_wp2_with (first
    | ((with_reducible refine gate_dst (N := 3) rfl ?_); refine fr_box H rfl rfl rfl ?_; intro g3 w3 H1; clear H; have H := H1; clear H1)
    | ((with_reducible refine gate_dst (N := 4) rfl ?_); refine fr_box H rfl rfl rfl ?_; intro g4 w4 H1; clear H; have H := H1; clear H1)
    | ((with_reducible refine gate_dst (N := 6) rfl ?_); refine fr_new H (N := 6) rfl rfl (cs := #[.int .i64 0, .int .i64 0]) (t := 25) ?hr ?_; (case hr => first | (go_simp; done) | (go_simp; rfl)); intro g6 w6 H1; clear H; have H := H1; clear H1)
    | ((with_reducible refine gate_dst (N := 7) rfl ?_); refine fr_sub H (n := 2) rfl rfl rfl (by repeat (first | exact At.head | apply At.tail)) Try.underlying25 rfl (by kernel_rfl) (by simp only [List.toList_toArray, List.drop_succ_cons, List.drop_zero, List.take_succ_cons, List.take_zero]; rfl) (by rfl) ?_)
    | ((with_reducible refine gate_dst (N := 9) rfl ?_); refine fr_get H rfl rfl rfl (by repeat (first | exact At.head | apply At.tail)) Try.underlying3 rfl (by simp only [List.getElem?_toArray, List.getElem?_cons_succ, List.getElem?_cons_zero]; rfl) ?_)
    | ((with_reducible refine gate_dst (N := 11) rfl ?_); refine fr_get H rfl rfl rfl (by repeat (first | exact At.head | apply At.tail)) Try.underlying3 rfl (by simp only [List.getElem?_toArray, List.getElem?_cons_succ, List.getElem?_cons_zero]; rfl) ?_)
    | ((with_reducible refine gate_dst (N := 15) rfl ?_); refine fr_get H rfl rfl rfl (by repeat (first | exact At.head | apply At.tail)) Try.underlying3 rfl (by simp only [List.getElem?_toArray, List.getElem?_cons_succ, List.getElem?_cons_zero]; rfl) ?_)
    | ((with_reducible refine gate_dst (N := 17) rfl ?_); refine fr_rowv H (N := 17) rfl rfl (fun K hK => by go_simp; exact hK.out) ?_; intro x17 w17 H1; clear H; have H := H1; clear H1)
    | ((with_reducible refine gate_dst (N := 20) rfl ?_); refine fr_get H rfl rfl rfl (by repeat (first | exact At.head | apply At.tail)) Try.underlying3 rfl (by simp only [List.getElem?_toArray, List.getElem?_cons_succ, List.getElem?_cons_zero]; rfl) ?_)
    | ((with_reducible refine gate_dst (N := 23) rfl ?_); refine fr_get H rfl rfl rfl (by repeat (first | exact At.head | apply At.tail)) Try.underlying3 rfl (by simp only [List.getElem?_toArray, List.getElem?_cons_succ, List.getElem?_cons_zero]; rfl) ?_)
    | ((with_reducible refine gate_dst (N := 24) rfl ?_); refine fr_rowv H (N := 24) rfl rfl (fun K hK => by go_simp; exact hK.out) ?_; intro x24 w24 H1; clear H; have H := H1; clear H1)
    | ((with_reducible refine gate_store (t := 25) (p := 6) rfl ?_); refine fr_put H rfl rfl rfl rfl rfl (by repeat (first | exact At.head | apply At.tail)) (by rfl) (by kernel_rfl) (by simp [Value.oneCell']) ?_; intro w6_ H1; clear H; have H := H1; clear H1)
    | fail)
  refine ko_region1 H (by simp only [List.length_cons, List.length_nil, Nat.reduceAdd]; rfl) (g := g6) (by repeat (first | exact Take.head | apply Take.tail)) (by kernel_rfl) (by kernel_rfl) (fun HR => ?_)
  repeat (first
    | ((with_reducible refine kg_call (f := 26) rfl ?_); refine ko_call 26 _ rfl (by rfl) Try.func26 (by kernel_rfl) rfl (by kernel_rfl) (by simp only [List.map_toArray, List.map_cons, List.map_nil]; rfl) (fun W hC hd => Add2 (by first | exact depH.hd hd (by kernel_rfl) | exact depH.hd (depH.tl hd) (by kernel_rfl) | exact depH.hd (depH.tl (depH.tl hd)) (by kernel_rfl))) ?_; (try simp only [Act.put, List.setIfInBounds_toArray, List.set_cons_zero, List.set_cons_succ, Nat.reduceAdd]))
    | ((with_reducible refine kg_call (f := 26) rfl ?_); refine ko_call 26 _ rfl (by rfl) Try.func26 (by kernel_rfl) rfl (by kernel_rfl) (by simp only [List.map_toArray, List.map_cons, List.map_nil]; rfl) (fun W hC hd => Add3 (by first | exact depH.hd hd (by kernel_rfl) | exact depH.hd (depH.tl hd) (by kernel_rfl) | exact depH.hd (depH.tl (depH.tl hd)) (by kernel_rfl))) ?_; (try simp only [Act.put, List.setIfInBounds_toArray, List.set_cons_zero, List.set_cons_succ, Nat.reduceAdd]))
    | ((with_reducible refine kg_call (f := 37) rfl ?_); refine ko_call 37 _ rfl (by rfl) Try.func37 (by kernel_rfl) rfl (by kernel_rfl) (by simp only [List.map_toArray, List.map_cons, List.map_nil]; rfl) (fun W hC hd => ret_below (Sub_calls _ _ _)) ?_; (try simp only [Act.put, List.setIfInBounds_toArray, List.set_cons_zero, List.set_cons_succ, Nat.reduceAdd]))
    | ((with_reducible refine kg_call (f := 43) rfl ?_); refine ko_call 43 _ rfl (by rfl) Try.func43 (by kernel_rfl) rfl (by kernel_rfl) (by simp only [List.map_toArray, List.map_cons, List.map_nil]; rfl) (fun W hC hd => ret_below (Neg_calls _ _)) ?_; (try simp only [Act.put, List.setIfInBounds_toArray, List.set_cons_zero, List.set_cons_succ, Nat.reduceAdd]))
    | ((with_reducible refine kg_call (f := 27) rfl ?_); refine ko_call 27 _ rfl (by rfl) Try.func27 (by kernel_rfl) rfl (by kernel_rfl) (by simp only [List.map_toArray, List.map_cons, List.map_nil]; rfl) (fun W hC hd => ret_below (Mul_calls _ _ _)) ?_; (try simp only [Act.put, List.setIfInBounds_toArray, List.set_cons_zero, List.set_cons_succ, Nat.reduceAdd]))
    | ((with_reducible refine kg_call (f := 31) rfl ?_); refine ko_call 31 _ rfl (by rfl) Try.func31 (by kernel_rfl) rfl (by kernel_rfl) (by simp only [List.map_toArray, List.map_cons, List.map_nil]; rfl) (fun W hC hd => ret_below (Clip_calls _ _)) ?_; (try simp only [Act.put, List.setIfInBounds_toArray, List.set_cons_zero, List.set_cons_succ, Nat.reduceAdd]))
    | ((with_reducible refine kg_call (f := 32) rfl ?_); refine ko_call 32 _ rfl (by rfl) Try.func32 (by kernel_rfl) rfl (by kernel_rfl) (by simp only [List.map_toArray, List.map_cons, List.map_nil]; rfl) (fun W hC hd => ret_below (Bound_calls _ _ _ _)) ?_; (try simp only [Act.put, List.setIfInBounds_toArray, List.set_cons_zero, List.set_cons_succ, Nat.reduceAdd]))
    | ((with_reducible refine kg_call (f := 42) rfl ?_); refine ko_call 42 _ rfl (by rfl) Try.func42 (by kernel_rfl) rfl (by kernel_rfl) (by simp only [List.map_toArray, List.map_cons, List.map_nil]; rfl) (fun W hC hd => Shift_calls _ _ _ _ _) ?_; (try simp only [Act.put, List.setIfInBounds_toArray, List.set_cons_zero, List.set_cons_succ, Nat.reduceAdd]))
    | ((with_reducible refine kg_call (f := 11) rfl ?_); refine ko_call 11 _ rfl (by rfl) Try.func11 (by kernel_rfl) rfl (by kernel_rfl) (by simp only [List.map_toArray, List.map_cons, List.map_nil]; rfl) (fun W hC hd => Hop_calls p _) ?_; (try simp only [Act.put, List.setIfInBounds_toArray, List.set_cons_zero, List.set_cons_succ, Nat.reduceAdd]))
    | ((with_reducible refine kg_call (f := 71) rfl ?_); refine ko_call 71 _ rfl (by rfl) Try.func71 (by kernel_rfl) rfl (by kernel_rfl) (by simp only [List.map_toArray, List.map_cons, List.map_nil]; rfl) (fun W hC hd => Gate_calls p _) ?_; (try simp only [Act.put, List.setIfInBounds_toArray, List.set_cons_zero, List.set_cons_succ, Nat.reduceAdd]))
    | ((with_reducible refine kg_call (f := 61) rfl ?_); refine ko_call 61 _ rfl (by rfl) Try.func61 (by kernel_rfl) rfl (by kernel_rfl) (by simp only [List.map_toArray, List.map_cons, List.map_nil]; rfl) (fun W hC hd => Width_calls p _ _ _) ?_; (try simp only [Act.put, List.setIfInBounds_toArray, List.set_cons_zero, List.set_cons_succ, Nat.reduceAdd]))
    | ((with_reducible refine kg_call (f := 62) rfl ?_); refine ko_call 62 _ rfl (by rfl) Try.func62 (by kernel_rfl) rfl (by kernel_rfl) (by simp only [List.map_toArray, List.map_cons, List.map_nil]; rfl) (fun W hC hd => Max2 (by first | exact depH.hd hd (by kernel_rfl) | exact depH.hd (depH.tl hd) (by kernel_rfl))) ?_; (try simp only [Act.put, List.setIfInBounds_toArray, List.set_cons_zero, List.set_cons_succ, Nat.reduceAdd]))
    | ((with_reducible refine kg_dst (N := 3) rfl ?_); refine ko_var rfl (by rfl) (fun W K hK => by go_simp; exact hK.out) ?_; intro g3; (try simp only [Act.put, List.setIfInBounds_toArray, List.set_cons_zero, List.set_cons_succ, Nat.reduceAdd]))
    | ((with_reducible refine kg_dst (N := 4) rfl ?_); refine ko_var rfl (by rfl) (fun W K hK => by go_simp; exact hK.out) ?_; intro g4; (try simp only [Act.put, List.setIfInBounds_toArray, List.set_cons_zero, List.set_cons_succ, Nat.reduceAdd]))
    | ((with_reducible refine kg_dst (N := 6) rfl ?_); refine ko_var rfl (by rfl) (fun W K hK => by go_simp; exact hK.out) ?_; intro g6; (try simp only [Act.put, List.setIfInBounds_toArray, List.set_cons_zero, List.set_cons_succ, Nat.reduceAdd]))
    | ((with_reducible refine kg_load (ty := 25) rfl ?_); refine ko_sub HR (n := 2) rfl (by rfl) (by rfl) (by repeat (first | exact At.head | apply At.tail)) Try.underlying25 rfl (by kernel_rfl) (by simp only [List.toList_toArray, List.drop_succ_cons, List.drop_zero, List.take_succ_cons, List.take_zero]; rfl) (by rfl) ?_; (try simp only [Act.put, List.setIfInBounds_toArray, List.set_cons_zero, List.set_cons_succ, Nat.reduceAdd]))
    | ((with_reducible refine kg_load (ty := 3) rfl ?_); refine ko_get HR rfl (by rfl) (by rfl) (by repeat (first | exact At.head | apply At.tail)) Try.underlying3 rfl (by simp only [List.getElem?_toArray, List.getElem?_cons_succ, List.getElem?_cons_zero]; rfl) ?_; (try simp only [Act.put, List.setIfInBounds_toArray, List.set_cons_zero, List.set_cons_succ, Nat.reduceAdd]))
    | ((with_reducible refine kg_dst (N := 17) rfl ?_); refine ko_row rfl (by rfl) (fun W K hK => by go_simp; exact hK.out) ?_; intro x17; (try simp only [Act.put, List.setIfInBounds_toArray, List.set_cons_zero, List.set_cons_succ, Nat.reduceAdd]))
    | ((with_reducible refine kg_dst (N := 24) rfl ?_); refine ko_row rfl (by rfl) (fun W K hK => by go_simp; exact hK.out) ?_; intro x24; (try simp only [Act.put, List.setIfInBounds_toArray, List.set_cons_zero, List.set_cons_succ, Nat.reduceAdd]))
    | ((with_reducible refine kg_store (ty := 25) rfl ?_); refine ko_put (u := .agg (List.toArray _)) rfl rfl (by rfl) (by rfl) (by rfl) (by repeat (first | exact VarAt.head | apply VarAt.tail)) (by kernel_rfl) (Nat.le_of_ble_eq_true rfl) (by simp only [Value.cells, List.take_succ_cons, List.take_zero, List.drop_succ_cons, List.drop_zero, List.cons_append, List.nil_append, List.length_cons, List.length_nil, Nat.reduceAdd, List.append_nil, List.drop_nil, List.take_nil]; rfl) (by repeat (first | exact VarAt.head | apply VarAt.tail)) (by simp [apartR, Value.cells]) (by kernel_rfl) (by simp [Value.cells, Value.oneCell']) ?_; (try simp only [Value.cells, List.length_cons, List.length_nil, Nat.reduceAdd]))
    | (refine ko_pure rfl (by rfl) (fun W K hK => by go_simp; exact hK.out) ?_; (try simp only [Act.put, List.setIfInBounds_toArray, List.set_cons_zero, List.set_cons_succ, Nat.reduceAdd]))
    | (refine ko_off (by rfl) ?_; (try simp only [Act.put, List.setIfInBounds_toArray, List.set_cons_zero, List.set_cons_succ, Nat.reduceAdd])))
  refine ko_end ?_
  intro w1 H1
  clear HR H
  have H := H1
  clear H1
  (try simp only [List.map_cons, List.map_nil, cv, List.cons_append, List.nil_append] at H)
  go_wp2
  refine bodyPost_ret (results_c rfl _ _ g6 25 _ (0, 0) _ rfl (H.of (by repeat (first | exact At.head | apply At.tail))) Try.underlying25 rfl (by kernel_rfl)) rfl ?_
  exact ⟨rfl, H.below⟩
set_option maxHeartbeats 4000000 in
set_option maxRecDepth 100000 in
theorem Hop_calls (p : Par) (w : World) : Calls Try.prog 11 #[.agg #[.int .i64 p.N, .int .i64 p.F, .int .i64 p.D, .int .i64 p.Be, .int .i64 p.Rho, .int .i64 p.De, .int .i64 p.Ji, .int .i64 p.Eps, .int .i64 p.Mu, .int .i64 p.Ho, .int .i64 p.Pu, .int .i64 p.Se]] w fun e w' => e = .returned (.int .i64 (hopP p)) ∧ Below w.heap.size w w' := by
  have H := Fr.start0 (M := fun _ => False) (A := fun _ => False) (w := w) (p := fun _ => True) (fun _ h => h.elim) (fun _ _ => trivial)
  go_enter Try.func11, Try.ntmps11
  go_wp2_with (first
    | ((with_reducible refine gate_dst (N := 1) rfl ?_); refine fr_box H rfl rfl rfl ?_; intro g1 w1 H1; clear H; have H := H1; clear H1)
    | ((with_reducible refine gate_dst (N := 4) rfl ?_); refine fr_get H rfl rfl rfl (by repeat (first | exact At.head | apply At.tail)) Try.underlying3 rfl (by simp only [List.getElem?_toArray, List.getElem?_cons_succ, List.getElem?_cons_zero]; rfl) ?_)
    | ((with_reducible refine gate_dst (N := 6) rfl ?_); refine fr_get H rfl rfl rfl (by repeat (first | exact At.head | apply At.tail)) Try.underlying3 rfl (by simp only [List.getElem?_toArray, List.getElem?_cons_succ, List.getElem?_cons_zero]; rfl) ?_)
    | ((with_reducible refine gate_dst (N := 8) rfl ?_); refine fr_rowv H (N := 8) rfl rfl (fun K hK => by go_simp; exact hK.out) ?_; intro x8 w8 H1; clear H; have H := H1; clear H1)
    | fail)
  refine ko_region0 H (by kernel_rfl) (by kernel_rfl) (fun HR => ?_)
  repeat (first
    | ((with_reducible refine kg_call (f := 26) rfl ?_); refine ko_call 26 _ rfl (by rfl) Try.func26 (by kernel_rfl) rfl (by kernel_rfl) (by simp only [List.map_toArray, List.map_cons, List.map_nil]; rfl) (fun W hC hd => Add2 (by first | exact depH.hd hd (by kernel_rfl) | exact depH.hd (depH.tl hd) (by kernel_rfl) | exact depH.hd (depH.tl (depH.tl hd)) (by kernel_rfl))) ?_; (try simp only [Act.put, List.setIfInBounds_toArray, List.set_cons_zero, List.set_cons_succ, Nat.reduceAdd]))
    | ((with_reducible refine kg_call (f := 26) rfl ?_); refine ko_call 26 _ rfl (by rfl) Try.func26 (by kernel_rfl) rfl (by kernel_rfl) (by simp only [List.map_toArray, List.map_cons, List.map_nil]; rfl) (fun W hC hd => Add3 (by first | exact depH.hd hd (by kernel_rfl) | exact depH.hd (depH.tl hd) (by kernel_rfl) | exact depH.hd (depH.tl (depH.tl hd)) (by kernel_rfl))) ?_; (try simp only [Act.put, List.setIfInBounds_toArray, List.set_cons_zero, List.set_cons_succ, Nat.reduceAdd]))
    | ((with_reducible refine kg_call (f := 37) rfl ?_); refine ko_call 37 _ rfl (by rfl) Try.func37 (by kernel_rfl) rfl (by kernel_rfl) (by simp only [List.map_toArray, List.map_cons, List.map_nil]; rfl) (fun W hC hd => ret_below (Sub_calls _ _ _)) ?_; (try simp only [Act.put, List.setIfInBounds_toArray, List.set_cons_zero, List.set_cons_succ, Nat.reduceAdd]))
    | ((with_reducible refine kg_call (f := 43) rfl ?_); refine ko_call 43 _ rfl (by rfl) Try.func43 (by kernel_rfl) rfl (by kernel_rfl) (by simp only [List.map_toArray, List.map_cons, List.map_nil]; rfl) (fun W hC hd => ret_below (Neg_calls _ _)) ?_; (try simp only [Act.put, List.setIfInBounds_toArray, List.set_cons_zero, List.set_cons_succ, Nat.reduceAdd]))
    | ((with_reducible refine kg_call (f := 27) rfl ?_); refine ko_call 27 _ rfl (by rfl) Try.func27 (by kernel_rfl) rfl (by kernel_rfl) (by simp only [List.map_toArray, List.map_cons, List.map_nil]; rfl) (fun W hC hd => ret_below (Mul_calls _ _ _)) ?_; (try simp only [Act.put, List.setIfInBounds_toArray, List.set_cons_zero, List.set_cons_succ, Nat.reduceAdd]))
    | ((with_reducible refine kg_call (f := 31) rfl ?_); refine ko_call 31 _ rfl (by rfl) Try.func31 (by kernel_rfl) rfl (by kernel_rfl) (by simp only [List.map_toArray, List.map_cons, List.map_nil]; rfl) (fun W hC hd => ret_below (Clip_calls _ _)) ?_; (try simp only [Act.put, List.setIfInBounds_toArray, List.set_cons_zero, List.set_cons_succ, Nat.reduceAdd]))
    | ((with_reducible refine kg_call (f := 32) rfl ?_); refine ko_call 32 _ rfl (by rfl) Try.func32 (by kernel_rfl) rfl (by kernel_rfl) (by simp only [List.map_toArray, List.map_cons, List.map_nil]; rfl) (fun W hC hd => ret_below (Bound_calls _ _ _ _)) ?_; (try simp only [Act.put, List.setIfInBounds_toArray, List.set_cons_zero, List.set_cons_succ, Nat.reduceAdd]))
    | ((with_reducible refine kg_call (f := 42) rfl ?_); refine ko_call 42 _ rfl (by rfl) Try.func42 (by kernel_rfl) rfl (by kernel_rfl) (by simp only [List.map_toArray, List.map_cons, List.map_nil]; rfl) (fun W hC hd => Shift_calls _ _ _ _ _) ?_; (try simp only [Act.put, List.setIfInBounds_toArray, List.set_cons_zero, List.set_cons_succ, Nat.reduceAdd]))
    | ((with_reducible refine kg_call (f := 11) rfl ?_); refine ko_call 11 _ rfl (by rfl) Try.func11 (by kernel_rfl) rfl (by kernel_rfl) (by simp only [List.map_toArray, List.map_cons, List.map_nil]; rfl) (fun W hC hd => Hop_calls p _) ?_; (try simp only [Act.put, List.setIfInBounds_toArray, List.set_cons_zero, List.set_cons_succ, Nat.reduceAdd]))
    | ((with_reducible refine kg_call (f := 71) rfl ?_); refine ko_call 71 _ rfl (by rfl) Try.func71 (by kernel_rfl) rfl (by kernel_rfl) (by simp only [List.map_toArray, List.map_cons, List.map_nil]; rfl) (fun W hC hd => Gate_calls p _) ?_; (try simp only [Act.put, List.setIfInBounds_toArray, List.set_cons_zero, List.set_cons_succ, Nat.reduceAdd]))
    | ((with_reducible refine kg_call (f := 61) rfl ?_); refine ko_call 61 _ rfl (by rfl) Try.func61 (by kernel_rfl) rfl (by kernel_rfl) (by simp only [List.map_toArray, List.map_cons, List.map_nil]; rfl) (fun W hC hd => Width_calls p _ _ _) ?_; (try simp only [Act.put, List.setIfInBounds_toArray, List.set_cons_zero, List.set_cons_succ, Nat.reduceAdd]))
    | ((with_reducible refine kg_call (f := 62) rfl ?_); refine ko_call 62 _ rfl (by rfl) Try.func62 (by kernel_rfl) rfl (by kernel_rfl) (by simp only [List.map_toArray, List.map_cons, List.map_nil]; rfl) (fun W hC hd => Max2 (by first | exact depH.hd hd (by kernel_rfl) | exact depH.hd (depH.tl hd) (by kernel_rfl))) ?_; (try simp only [Act.put, List.setIfInBounds_toArray, List.set_cons_zero, List.set_cons_succ, Nat.reduceAdd]))
    | ((with_reducible refine kg_dst (N := 1) rfl ?_); refine ko_var rfl (by rfl) (fun W K hK => by go_simp; exact hK.out) ?_; intro g1; (try simp only [Act.put, List.setIfInBounds_toArray, List.set_cons_zero, List.set_cons_succ, Nat.reduceAdd]))
    | ((with_reducible refine kg_load (ty := 3) rfl ?_); refine ko_get HR rfl (by rfl) (by rfl) (by repeat (first | exact At.head | apply At.tail)) Try.underlying3 rfl (by simp only [List.getElem?_toArray, List.getElem?_cons_succ, List.getElem?_cons_zero]; rfl) ?_; (try simp only [Act.put, List.setIfInBounds_toArray, List.set_cons_zero, List.set_cons_succ, Nat.reduceAdd]))
    | ((with_reducible refine kg_dst (N := 8) rfl ?_); refine ko_row rfl (by rfl) (fun W K hK => by go_simp; exact hK.out) ?_; intro x8; (try simp only [Act.put, List.setIfInBounds_toArray, List.set_cons_zero, List.set_cons_succ, Nat.reduceAdd]))
    | (refine ko_pure rfl (by rfl) (fun W K hK => by go_simp; exact hK.out) ?_; (try simp only [Act.put, List.setIfInBounds_toArray, List.set_cons_zero, List.set_cons_succ, Nat.reduceAdd]))
    | (refine ko_off (by rfl) ?_; (try simp only [Act.put, List.setIfInBounds_toArray, List.set_cons_zero, List.set_cons_succ, Nat.reduceAdd])))
  refine ko_end ?_
  intro w1 H1
  clear HR H
  have H := H1
  clear H1
  (try simp only [List.map_cons, List.map_nil, cv, List.cons_append, List.nil_append] at H)
  go_wp2
  go_ret
  exact ⟨rfl, H.below⟩
set_option maxHeartbeats 4000000 in
set_option maxRecDepth 100000 in
theorem Gate_calls (p : Par) (w : World) : Calls Try.prog 71 #[.agg #[.int .i64 p.N, .int .i64 p.F, .int .i64 p.D, .int .i64 p.Be, .int .i64 p.Rho, .int .i64 p.De, .int .i64 p.Ji, .int .i64 p.Eps, .int .i64 p.Mu, .int .i64 p.Ho, .int .i64 p.Pu, .int .i64 p.Se]] w fun e w' => e = .returned (.int .i64 (gateP p)) ∧ Below w.heap.size w w' := by
  have H := Fr.start0 (M := fun _ => False) (A := fun _ => False) (w := w) (p := fun _ => True) (fun _ h => h.elim) (fun _ _ => trivial)
  go_enter Try.func71, Try.ntmps71
  go_wp2_with (first
    | ((with_reducible refine gate_dst (N := 1) rfl ?_); refine fr_box H rfl rfl rfl ?_; intro g1 w1 H1; clear H; have H := H1; clear H1)
    | ((with_reducible refine gate_dst (N := 4) rfl ?_); refine fr_get H rfl rfl rfl (by repeat (first | exact At.head | apply At.tail)) Try.underlying3 rfl (by simp only [List.getElem?_toArray, List.getElem?_cons_succ, List.getElem?_cons_zero]; rfl) ?_)
    | ((with_reducible refine gate_dst (N := 6) rfl ?_); refine fr_sub H (n := 12) rfl rfl rfl (by repeat (first | exact At.head | apply At.tail)) Try.underlying23 rfl (by kernel_rfl) (by simp only [List.toList_toArray, List.drop_succ_cons, List.drop_zero, List.take_succ_cons, List.take_zero]; rfl) (by rfl) ?_)
    | ((with_reducible refine gate_dst (N := 8) rfl ?_); refine fr_rowv H (N := 8) rfl rfl (fun K hK => by go_simp; exact hK.out) ?_; intro x8 w8 H1; clear H; have H := H1; clear H1)
    | fail)
  refine ko_region0 H (by kernel_rfl) (by kernel_rfl) (fun HR => ?_)
  repeat (first
    | ((with_reducible refine kg_call (f := 26) rfl ?_); refine ko_call 26 _ rfl (by rfl) Try.func26 (by kernel_rfl) rfl (by kernel_rfl) (by simp only [List.map_toArray, List.map_cons, List.map_nil]; rfl) (fun W hC hd => Add2 (by first | exact depH.hd hd (by kernel_rfl) | exact depH.hd (depH.tl hd) (by kernel_rfl) | exact depH.hd (depH.tl (depH.tl hd)) (by kernel_rfl))) ?_; (try simp only [Act.put, List.setIfInBounds_toArray, List.set_cons_zero, List.set_cons_succ, Nat.reduceAdd]))
    | ((with_reducible refine kg_call (f := 26) rfl ?_); refine ko_call 26 _ rfl (by rfl) Try.func26 (by kernel_rfl) rfl (by kernel_rfl) (by simp only [List.map_toArray, List.map_cons, List.map_nil]; rfl) (fun W hC hd => Add3 (by first | exact depH.hd hd (by kernel_rfl) | exact depH.hd (depH.tl hd) (by kernel_rfl) | exact depH.hd (depH.tl (depH.tl hd)) (by kernel_rfl))) ?_; (try simp only [Act.put, List.setIfInBounds_toArray, List.set_cons_zero, List.set_cons_succ, Nat.reduceAdd]))
    | ((with_reducible refine kg_call (f := 37) rfl ?_); refine ko_call 37 _ rfl (by rfl) Try.func37 (by kernel_rfl) rfl (by kernel_rfl) (by simp only [List.map_toArray, List.map_cons, List.map_nil]; rfl) (fun W hC hd => ret_below (Sub_calls _ _ _)) ?_; (try simp only [Act.put, List.setIfInBounds_toArray, List.set_cons_zero, List.set_cons_succ, Nat.reduceAdd]))
    | ((with_reducible refine kg_call (f := 43) rfl ?_); refine ko_call 43 _ rfl (by rfl) Try.func43 (by kernel_rfl) rfl (by kernel_rfl) (by simp only [List.map_toArray, List.map_cons, List.map_nil]; rfl) (fun W hC hd => ret_below (Neg_calls _ _)) ?_; (try simp only [Act.put, List.setIfInBounds_toArray, List.set_cons_zero, List.set_cons_succ, Nat.reduceAdd]))
    | ((with_reducible refine kg_call (f := 27) rfl ?_); refine ko_call 27 _ rfl (by rfl) Try.func27 (by kernel_rfl) rfl (by kernel_rfl) (by simp only [List.map_toArray, List.map_cons, List.map_nil]; rfl) (fun W hC hd => ret_below (Mul_calls _ _ _)) ?_; (try simp only [Act.put, List.setIfInBounds_toArray, List.set_cons_zero, List.set_cons_succ, Nat.reduceAdd]))
    | ((with_reducible refine kg_call (f := 31) rfl ?_); refine ko_call 31 _ rfl (by rfl) Try.func31 (by kernel_rfl) rfl (by kernel_rfl) (by simp only [List.map_toArray, List.map_cons, List.map_nil]; rfl) (fun W hC hd => ret_below (Clip_calls _ _)) ?_; (try simp only [Act.put, List.setIfInBounds_toArray, List.set_cons_zero, List.set_cons_succ, Nat.reduceAdd]))
    | ((with_reducible refine kg_call (f := 32) rfl ?_); refine ko_call 32 _ rfl (by rfl) Try.func32 (by kernel_rfl) rfl (by kernel_rfl) (by simp only [List.map_toArray, List.map_cons, List.map_nil]; rfl) (fun W hC hd => ret_below (Bound_calls _ _ _ _)) ?_; (try simp only [Act.put, List.setIfInBounds_toArray, List.set_cons_zero, List.set_cons_succ, Nat.reduceAdd]))
    | ((with_reducible refine kg_call (f := 42) rfl ?_); refine ko_call 42 _ rfl (by rfl) Try.func42 (by kernel_rfl) rfl (by kernel_rfl) (by simp only [List.map_toArray, List.map_cons, List.map_nil]; rfl) (fun W hC hd => Shift_calls _ _ _ _ _) ?_; (try simp only [Act.put, List.setIfInBounds_toArray, List.set_cons_zero, List.set_cons_succ, Nat.reduceAdd]))
    | ((with_reducible refine kg_call (f := 11) rfl ?_); refine ko_call 11 _ rfl (by rfl) Try.func11 (by kernel_rfl) rfl (by kernel_rfl) (by simp only [List.map_toArray, List.map_cons, List.map_nil]; rfl) (fun W hC hd => Hop_calls p _) ?_; (try simp only [Act.put, List.setIfInBounds_toArray, List.set_cons_zero, List.set_cons_succ, Nat.reduceAdd]))
    | ((with_reducible refine kg_call (f := 71) rfl ?_); refine ko_call 71 _ rfl (by rfl) Try.func71 (by kernel_rfl) rfl (by kernel_rfl) (by simp only [List.map_toArray, List.map_cons, List.map_nil]; rfl) (fun W hC hd => Gate_calls p _) ?_; (try simp only [Act.put, List.setIfInBounds_toArray, List.set_cons_zero, List.set_cons_succ, Nat.reduceAdd]))
    | ((with_reducible refine kg_call (f := 61) rfl ?_); refine ko_call 61 _ rfl (by rfl) Try.func61 (by kernel_rfl) rfl (by kernel_rfl) (by simp only [List.map_toArray, List.map_cons, List.map_nil]; rfl) (fun W hC hd => Width_calls p _ _ _) ?_; (try simp only [Act.put, List.setIfInBounds_toArray, List.set_cons_zero, List.set_cons_succ, Nat.reduceAdd]))
    | ((with_reducible refine kg_call (f := 62) rfl ?_); refine ko_call 62 _ rfl (by rfl) Try.func62 (by kernel_rfl) rfl (by kernel_rfl) (by simp only [List.map_toArray, List.map_cons, List.map_nil]; rfl) (fun W hC hd => Max2 (by first | exact depH.hd hd (by kernel_rfl) | exact depH.hd (depH.tl hd) (by kernel_rfl))) ?_; (try simp only [Act.put, List.setIfInBounds_toArray, List.set_cons_zero, List.set_cons_succ, Nat.reduceAdd]))
    | ((with_reducible refine kg_dst (N := 1) rfl ?_); refine ko_var rfl (by rfl) (fun W K hK => by go_simp; exact hK.out) ?_; intro g1; (try simp only [Act.put, List.setIfInBounds_toArray, List.set_cons_zero, List.set_cons_succ, Nat.reduceAdd]))
    | ((with_reducible refine kg_load (ty := 3) rfl ?_); refine ko_get HR rfl (by rfl) (by rfl) (by repeat (first | exact At.head | apply At.tail)) Try.underlying3 rfl (by simp only [List.getElem?_toArray, List.getElem?_cons_succ, List.getElem?_cons_zero]; rfl) ?_; (try simp only [Act.put, List.setIfInBounds_toArray, List.set_cons_zero, List.set_cons_succ, Nat.reduceAdd]))
    | ((with_reducible refine kg_load (ty := 23) rfl ?_); refine ko_sub HR (n := 12) rfl (by rfl) (by rfl) (by repeat (first | exact At.head | apply At.tail)) Try.underlying23 rfl (by kernel_rfl) (by simp only [List.toList_toArray, List.drop_succ_cons, List.drop_zero, List.take_succ_cons, List.take_zero]; rfl) (by rfl) ?_; (try simp only [Act.put, List.setIfInBounds_toArray, List.set_cons_zero, List.set_cons_succ, Nat.reduceAdd]))
    | ((with_reducible refine kg_dst (N := 8) rfl ?_); refine ko_row rfl (by rfl) (fun W K hK => by go_simp; exact hK.out) ?_; intro x8; (try simp only [Act.put, List.setIfInBounds_toArray, List.set_cons_zero, List.set_cons_succ, Nat.reduceAdd]))
    | (refine ko_pure rfl (by rfl) (fun W K hK => by go_simp; exact hK.out) ?_; (try simp only [Act.put, List.setIfInBounds_toArray, List.set_cons_zero, List.set_cons_succ, Nat.reduceAdd]))
    | (refine ko_off (by rfl) ?_; (try simp only [Act.put, List.setIfInBounds_toArray, List.set_cons_zero, List.set_cons_succ, Nat.reduceAdd])))
  refine ko_end ?_
  intro w1 H1
  clear HR H
  have H := H1
  clear H1
  (try simp only [List.map_cons, List.map_nil, cv, List.cons_append, List.nil_append] at H)
  go_wp2
  go_ret
  exact ⟨rfl, H.below⟩
set_option maxHeartbeats 4000000 in
set_option maxRecDepth 100000 in
theorem Width_calls (p : Par) (held hops : Int) (w : World) : Calls Try.prog 61 #[.agg #[.int .i64 p.N, .int .i64 p.F, .int .i64 p.D, .int .i64 p.Be, .int .i64 p.Rho, .int .i64 p.De, .int .i64 p.Ji, .int .i64 p.Eps, .int .i64 p.Mu, .int .i64 p.Ho, .int .i64 p.Pu, .int .i64 p.Se], .int .i64 held, .int .i64 hops] w fun e w' => e = .returned (.int .i64 (widthP p held hops)) ∧ Below w.heap.size w w' := by
  have H := Fr.start0 (M := fun _ => False) (A := fun _ => False) (w := w) (p := fun _ => True) (fun _ h => h.elim) (fun _ _ => trivial)
  go_enter Try.func61, Try.ntmps61
  go_wp2_with (first
    | ((with_reducible refine gate_dst (N := 3) rfl ?_); refine fr_box H rfl rfl rfl ?_; intro g3 w3 H1; clear H; have H := H1; clear H1)
    | ((with_reducible refine gate_dst (N := 7) rfl ?_); refine fr_sub H (n := 12) rfl rfl rfl (by repeat (first | exact At.head | apply At.tail)) Try.underlying23 rfl (by kernel_rfl) (by simp only [List.toList_toArray, List.drop_succ_cons, List.drop_zero, List.take_succ_cons, List.take_zero]; rfl) (by rfl) ?_)
    | ((with_reducible refine gate_dst (N := 10) rfl ?_); refine fr_get H rfl rfl rfl (by repeat (first | exact At.head | apply At.tail)) Try.underlying3 rfl (by simp only [List.getElem?_toArray, List.getElem?_cons_succ, List.getElem?_cons_zero]; rfl) ?_)
    | ((with_reducible refine gate_dst (N := 15) rfl ?_); refine fr_rowv H (N := 15) rfl rfl (fun K hK => by go_simp; exact hK.out) ?_; intro x15 w15 H1; clear H; have H := H1; clear H1)
    | ((with_reducible refine gate_dst (N := 17) rfl ?_); refine fr_sub H (n := 12) rfl rfl rfl (by repeat (first | exact At.head | apply At.tail)) Try.underlying23 rfl (by kernel_rfl) (by simp only [List.toList_toArray, List.drop_succ_cons, List.drop_zero, List.take_succ_cons, List.take_zero]; rfl) (by rfl) ?_)
    | ((with_reducible refine gate_dst (N := 20) rfl ?_); refine fr_rowv H (N := 20) rfl rfl (fun K hK => by go_simp; exact hK.out) ?_; intro x20 w20 H1; clear H; have H := H1; clear H1)
    | fail)
  refine ko_region0 H (by kernel_rfl) (by kernel_rfl) (fun HR => ?_)
  repeat (first
    | ((with_reducible refine kg_call (f := 26) rfl ?_); refine ko_call 26 _ rfl (by rfl) Try.func26 (by kernel_rfl) rfl (by kernel_rfl) (by simp only [List.map_toArray, List.map_cons, List.map_nil]; rfl) (fun W hC hd => Add2 (by first | exact depH.hd hd (by kernel_rfl) | exact depH.hd (depH.tl hd) (by kernel_rfl) | exact depH.hd (depH.tl (depH.tl hd)) (by kernel_rfl))) ?_; (try simp only [Act.put, List.setIfInBounds_toArray, List.set_cons_zero, List.set_cons_succ, Nat.reduceAdd]))
    | ((with_reducible refine kg_call (f := 26) rfl ?_); refine ko_call 26 _ rfl (by rfl) Try.func26 (by kernel_rfl) rfl (by kernel_rfl) (by simp only [List.map_toArray, List.map_cons, List.map_nil]; rfl) (fun W hC hd => Add3 (by first | exact depH.hd hd (by kernel_rfl) | exact depH.hd (depH.tl hd) (by kernel_rfl) | exact depH.hd (depH.tl (depH.tl hd)) (by kernel_rfl))) ?_; (try simp only [Act.put, List.setIfInBounds_toArray, List.set_cons_zero, List.set_cons_succ, Nat.reduceAdd]))
    | ((with_reducible refine kg_call (f := 37) rfl ?_); refine ko_call 37 _ rfl (by rfl) Try.func37 (by kernel_rfl) rfl (by kernel_rfl) (by simp only [List.map_toArray, List.map_cons, List.map_nil]; rfl) (fun W hC hd => ret_below (Sub_calls _ _ _)) ?_; (try simp only [Act.put, List.setIfInBounds_toArray, List.set_cons_zero, List.set_cons_succ, Nat.reduceAdd]))
    | ((with_reducible refine kg_call (f := 43) rfl ?_); refine ko_call 43 _ rfl (by rfl) Try.func43 (by kernel_rfl) rfl (by kernel_rfl) (by simp only [List.map_toArray, List.map_cons, List.map_nil]; rfl) (fun W hC hd => ret_below (Neg_calls _ _)) ?_; (try simp only [Act.put, List.setIfInBounds_toArray, List.set_cons_zero, List.set_cons_succ, Nat.reduceAdd]))
    | ((with_reducible refine kg_call (f := 27) rfl ?_); refine ko_call 27 _ rfl (by rfl) Try.func27 (by kernel_rfl) rfl (by kernel_rfl) (by simp only [List.map_toArray, List.map_cons, List.map_nil]; rfl) (fun W hC hd => ret_below (Mul_calls _ _ _)) ?_; (try simp only [Act.put, List.setIfInBounds_toArray, List.set_cons_zero, List.set_cons_succ, Nat.reduceAdd]))
    | ((with_reducible refine kg_call (f := 31) rfl ?_); refine ko_call 31 _ rfl (by rfl) Try.func31 (by kernel_rfl) rfl (by kernel_rfl) (by simp only [List.map_toArray, List.map_cons, List.map_nil]; rfl) (fun W hC hd => ret_below (Clip_calls _ _)) ?_; (try simp only [Act.put, List.setIfInBounds_toArray, List.set_cons_zero, List.set_cons_succ, Nat.reduceAdd]))
    | ((with_reducible refine kg_call (f := 32) rfl ?_); refine ko_call 32 _ rfl (by rfl) Try.func32 (by kernel_rfl) rfl (by kernel_rfl) (by simp only [List.map_toArray, List.map_cons, List.map_nil]; rfl) (fun W hC hd => ret_below (Bound_calls _ _ _ _)) ?_; (try simp only [Act.put, List.setIfInBounds_toArray, List.set_cons_zero, List.set_cons_succ, Nat.reduceAdd]))
    | ((with_reducible refine kg_call (f := 42) rfl ?_); refine ko_call 42 _ rfl (by rfl) Try.func42 (by kernel_rfl) rfl (by kernel_rfl) (by simp only [List.map_toArray, List.map_cons, List.map_nil]; rfl) (fun W hC hd => Shift_calls _ _ _ _ _) ?_; (try simp only [Act.put, List.setIfInBounds_toArray, List.set_cons_zero, List.set_cons_succ, Nat.reduceAdd]))
    | ((with_reducible refine kg_call (f := 11) rfl ?_); refine ko_call 11 _ rfl (by rfl) Try.func11 (by kernel_rfl) rfl (by kernel_rfl) (by simp only [List.map_toArray, List.map_cons, List.map_nil]; rfl) (fun W hC hd => Hop_calls p _) ?_; (try simp only [Act.put, List.setIfInBounds_toArray, List.set_cons_zero, List.set_cons_succ, Nat.reduceAdd]))
    | ((with_reducible refine kg_call (f := 71) rfl ?_); refine ko_call 71 _ rfl (by rfl) Try.func71 (by kernel_rfl) rfl (by kernel_rfl) (by simp only [List.map_toArray, List.map_cons, List.map_nil]; rfl) (fun W hC hd => Gate_calls p _) ?_; (try simp only [Act.put, List.setIfInBounds_toArray, List.set_cons_zero, List.set_cons_succ, Nat.reduceAdd]))
    | ((with_reducible refine kg_call (f := 61) rfl ?_); refine ko_call 61 _ rfl (by rfl) Try.func61 (by kernel_rfl) rfl (by kernel_rfl) (by simp only [List.map_toArray, List.map_cons, List.map_nil]; rfl) (fun W hC hd => Width_calls p _ _ _) ?_; (try simp only [Act.put, List.setIfInBounds_toArray, List.set_cons_zero, List.set_cons_succ, Nat.reduceAdd]))
    | ((with_reducible refine kg_call (f := 62) rfl ?_); refine ko_call 62 _ rfl (by rfl) Try.func62 (by kernel_rfl) rfl (by kernel_rfl) (by simp only [List.map_toArray, List.map_cons, List.map_nil]; rfl) (fun W hC hd => Max2 (by first | exact depH.hd hd (by kernel_rfl) | exact depH.hd (depH.tl hd) (by kernel_rfl))) ?_; (try simp only [Act.put, List.setIfInBounds_toArray, List.set_cons_zero, List.set_cons_succ, Nat.reduceAdd]))
    | ((with_reducible refine kg_dst (N := 3) rfl ?_); refine ko_var rfl (by rfl) (fun W K hK => by go_simp; exact hK.out) ?_; intro g3; (try simp only [Act.put, List.setIfInBounds_toArray, List.set_cons_zero, List.set_cons_succ, Nat.reduceAdd]))
    | ((with_reducible refine kg_load (ty := 23) rfl ?_); refine ko_sub HR (n := 12) rfl (by rfl) (by rfl) (by repeat (first | exact At.head | apply At.tail)) Try.underlying23 rfl (by kernel_rfl) (by simp only [List.toList_toArray, List.drop_succ_cons, List.drop_zero, List.take_succ_cons, List.take_zero]; rfl) (by rfl) ?_; (try simp only [Act.put, List.setIfInBounds_toArray, List.set_cons_zero, List.set_cons_succ, Nat.reduceAdd]))
    | ((with_reducible refine kg_load (ty := 3) rfl ?_); refine ko_get HR rfl (by rfl) (by rfl) (by repeat (first | exact At.head | apply At.tail)) Try.underlying3 rfl (by simp only [List.getElem?_toArray, List.getElem?_cons_succ, List.getElem?_cons_zero]; rfl) ?_; (try simp only [Act.put, List.setIfInBounds_toArray, List.set_cons_zero, List.set_cons_succ, Nat.reduceAdd]))
    | ((with_reducible refine kg_dst (N := 15) rfl ?_); refine ko_row rfl (by rfl) (fun W K hK => by go_simp; exact hK.out) ?_; intro x15; (try simp only [Act.put, List.setIfInBounds_toArray, List.set_cons_zero, List.set_cons_succ, Nat.reduceAdd]))
    | ((with_reducible refine kg_dst (N := 20) rfl ?_); refine ko_row rfl (by rfl) (fun W K hK => by go_simp; exact hK.out) ?_; intro x20; (try simp only [Act.put, List.setIfInBounds_toArray, List.set_cons_zero, List.set_cons_succ, Nat.reduceAdd]))
    | (refine ko_pure rfl (by rfl) (fun W K hK => by go_simp; exact hK.out) ?_; (try simp only [Act.put, List.setIfInBounds_toArray, List.set_cons_zero, List.set_cons_succ, Nat.reduceAdd]))
    | (refine ko_off (by rfl) ?_; (try simp only [Act.put, List.setIfInBounds_toArray, List.set_cons_zero, List.set_cons_succ, Nat.reduceAdd])))
  refine ko_end ?_
  intro w1 H1
  clear HR H
  have H := H1
  clear H1
  (try simp only [List.map_cons, List.map_nil, cv, List.cons_append, List.nil_append] at H)
  go_wp2
  go_ret
  exact ⟨rfl, H.below⟩
set_option maxHeartbeats 4000000 in
set_option maxRecDepth 100000 in
theorem Far_calls (p : Par) (held : Int) (w : World) : Calls Try.prog 47 #[.agg #[.int .i64 p.N, .int .i64 p.F, .int .i64 p.D, .int .i64 p.Be, .int .i64 p.Rho, .int .i64 p.De, .int .i64 p.Ji, .int .i64 p.Eps, .int .i64 p.Mu, .int .i64 p.Ho, .int .i64 p.Pu, .int .i64 p.Se], .int .i64 held] w fun e w' => e = .returned (.int .i64 (farP p held)) ∧ Below w.heap.size w w' := by
  have H := Fr.start0 (M := fun _ => False) (A := fun _ => False) (w := w) (p := fun _ => True) (fun _ h => h.elim) (fun _ _ => trivial)
  go_enter Try.func47, Try.ntmps47
  go_wp2_with (first
    | ((with_reducible refine gate_dst (N := 2) rfl ?_); refine fr_box H rfl rfl rfl ?_; intro g2 w2 H1; clear H; have H := H1; clear H1)
    | ((with_reducible refine gate_dst (N := 5) rfl ?_); refine fr_sub H (n := 12) rfl rfl rfl (by repeat (first | exact At.head | apply At.tail)) Try.underlying23 rfl (by kernel_rfl) (by simp only [List.toList_toArray, List.drop_succ_cons, List.drop_zero, List.take_succ_cons, List.take_zero]; rfl) (by rfl) ?_)
    | ((with_reducible refine gate_dst (N := 8) rfl ?_); refine fr_get H rfl rfl rfl (by repeat (first | exact At.head | apply At.tail)) Try.underlying3 rfl (by simp only [List.getElem?_toArray, List.getElem?_cons_succ, List.getElem?_cons_zero]; rfl) ?_)
    | ((with_reducible refine gate_dst (N := 9) rfl ?_); refine fr_rowv H (N := 9) rfl rfl (fun K hK => by go_simp; exact hK.out) ?_; intro x9 w9 H1; clear H; have H := H1; clear H1)
    | ((with_reducible refine gate_dst (N := 12) rfl ?_); refine fr_get H rfl rfl rfl (by repeat (first | exact At.head | apply At.tail)) Try.underlying3 rfl (by simp only [List.getElem?_toArray, List.getElem?_cons_succ, List.getElem?_cons_zero]; rfl) ?_)
    | fail)
  refine ko_region0 H (by kernel_rfl) (by kernel_rfl) (fun HR => ?_)
  repeat (first
    | ((with_reducible refine kg_call (f := 26) rfl ?_); refine ko_call 26 _ rfl (by rfl) Try.func26 (by kernel_rfl) rfl (by kernel_rfl) (by simp only [List.map_toArray, List.map_cons, List.map_nil]; rfl) (fun W hC hd => Add2 (by first | exact depH.hd hd (by kernel_rfl) | exact depH.hd (depH.tl hd) (by kernel_rfl) | exact depH.hd (depH.tl (depH.tl hd)) (by kernel_rfl))) ?_; (try simp only [Act.put, List.setIfInBounds_toArray, List.set_cons_zero, List.set_cons_succ, Nat.reduceAdd]))
    | ((with_reducible refine kg_call (f := 26) rfl ?_); refine ko_call 26 _ rfl (by rfl) Try.func26 (by kernel_rfl) rfl (by kernel_rfl) (by simp only [List.map_toArray, List.map_cons, List.map_nil]; rfl) (fun W hC hd => Add3 (by first | exact depH.hd hd (by kernel_rfl) | exact depH.hd (depH.tl hd) (by kernel_rfl) | exact depH.hd (depH.tl (depH.tl hd)) (by kernel_rfl))) ?_; (try simp only [Act.put, List.setIfInBounds_toArray, List.set_cons_zero, List.set_cons_succ, Nat.reduceAdd]))
    | ((with_reducible refine kg_call (f := 37) rfl ?_); refine ko_call 37 _ rfl (by rfl) Try.func37 (by kernel_rfl) rfl (by kernel_rfl) (by simp only [List.map_toArray, List.map_cons, List.map_nil]; rfl) (fun W hC hd => ret_below (Sub_calls _ _ _)) ?_; (try simp only [Act.put, List.setIfInBounds_toArray, List.set_cons_zero, List.set_cons_succ, Nat.reduceAdd]))
    | ((with_reducible refine kg_call (f := 43) rfl ?_); refine ko_call 43 _ rfl (by rfl) Try.func43 (by kernel_rfl) rfl (by kernel_rfl) (by simp only [List.map_toArray, List.map_cons, List.map_nil]; rfl) (fun W hC hd => ret_below (Neg_calls _ _)) ?_; (try simp only [Act.put, List.setIfInBounds_toArray, List.set_cons_zero, List.set_cons_succ, Nat.reduceAdd]))
    | ((with_reducible refine kg_call (f := 27) rfl ?_); refine ko_call 27 _ rfl (by rfl) Try.func27 (by kernel_rfl) rfl (by kernel_rfl) (by simp only [List.map_toArray, List.map_cons, List.map_nil]; rfl) (fun W hC hd => ret_below (Mul_calls _ _ _)) ?_; (try simp only [Act.put, List.setIfInBounds_toArray, List.set_cons_zero, List.set_cons_succ, Nat.reduceAdd]))
    | ((with_reducible refine kg_call (f := 31) rfl ?_); refine ko_call 31 _ rfl (by rfl) Try.func31 (by kernel_rfl) rfl (by kernel_rfl) (by simp only [List.map_toArray, List.map_cons, List.map_nil]; rfl) (fun W hC hd => ret_below (Clip_calls _ _)) ?_; (try simp only [Act.put, List.setIfInBounds_toArray, List.set_cons_zero, List.set_cons_succ, Nat.reduceAdd]))
    | ((with_reducible refine kg_call (f := 32) rfl ?_); refine ko_call 32 _ rfl (by rfl) Try.func32 (by kernel_rfl) rfl (by kernel_rfl) (by simp only [List.map_toArray, List.map_cons, List.map_nil]; rfl) (fun W hC hd => ret_below (Bound_calls _ _ _ _)) ?_; (try simp only [Act.put, List.setIfInBounds_toArray, List.set_cons_zero, List.set_cons_succ, Nat.reduceAdd]))
    | ((with_reducible refine kg_call (f := 42) rfl ?_); refine ko_call 42 _ rfl (by rfl) Try.func42 (by kernel_rfl) rfl (by kernel_rfl) (by simp only [List.map_toArray, List.map_cons, List.map_nil]; rfl) (fun W hC hd => Shift_calls _ _ _ _ _) ?_; (try simp only [Act.put, List.setIfInBounds_toArray, List.set_cons_zero, List.set_cons_succ, Nat.reduceAdd]))
    | ((with_reducible refine kg_call (f := 11) rfl ?_); refine ko_call 11 _ rfl (by rfl) Try.func11 (by kernel_rfl) rfl (by kernel_rfl) (by simp only [List.map_toArray, List.map_cons, List.map_nil]; rfl) (fun W hC hd => Hop_calls p _) ?_; (try simp only [Act.put, List.setIfInBounds_toArray, List.set_cons_zero, List.set_cons_succ, Nat.reduceAdd]))
    | ((with_reducible refine kg_call (f := 71) rfl ?_); refine ko_call 71 _ rfl (by rfl) Try.func71 (by kernel_rfl) rfl (by kernel_rfl) (by simp only [List.map_toArray, List.map_cons, List.map_nil]; rfl) (fun W hC hd => Gate_calls p _) ?_; (try simp only [Act.put, List.setIfInBounds_toArray, List.set_cons_zero, List.set_cons_succ, Nat.reduceAdd]))
    | ((with_reducible refine kg_call (f := 61) rfl ?_); refine ko_call 61 _ rfl (by rfl) Try.func61 (by kernel_rfl) rfl (by kernel_rfl) (by simp only [List.map_toArray, List.map_cons, List.map_nil]; rfl) (fun W hC hd => Width_calls p _ _ _) ?_; (try simp only [Act.put, List.setIfInBounds_toArray, List.set_cons_zero, List.set_cons_succ, Nat.reduceAdd]))
    | ((with_reducible refine kg_call (f := 62) rfl ?_); refine ko_call 62 _ rfl (by rfl) Try.func62 (by kernel_rfl) rfl (by kernel_rfl) (by simp only [List.map_toArray, List.map_cons, List.map_nil]; rfl) (fun W hC hd => Max2 (by first | exact depH.hd hd (by kernel_rfl) | exact depH.hd (depH.tl hd) (by kernel_rfl))) ?_; (try simp only [Act.put, List.setIfInBounds_toArray, List.set_cons_zero, List.set_cons_succ, Nat.reduceAdd]))
    | ((with_reducible refine kg_dst (N := 2) rfl ?_); refine ko_var rfl (by rfl) (fun W K hK => by go_simp; exact hK.out) ?_; intro g2; (try simp only [Act.put, List.setIfInBounds_toArray, List.set_cons_zero, List.set_cons_succ, Nat.reduceAdd]))
    | ((with_reducible refine kg_load (ty := 23) rfl ?_); refine ko_sub HR (n := 12) rfl (by rfl) (by rfl) (by repeat (first | exact At.head | apply At.tail)) Try.underlying23 rfl (by kernel_rfl) (by simp only [List.toList_toArray, List.drop_succ_cons, List.drop_zero, List.take_succ_cons, List.take_zero]; rfl) (by rfl) ?_; (try simp only [Act.put, List.setIfInBounds_toArray, List.set_cons_zero, List.set_cons_succ, Nat.reduceAdd]))
    | ((with_reducible refine kg_load (ty := 3) rfl ?_); refine ko_get HR rfl (by rfl) (by rfl) (by repeat (first | exact At.head | apply At.tail)) Try.underlying3 rfl (by simp only [List.getElem?_toArray, List.getElem?_cons_succ, List.getElem?_cons_zero]; rfl) ?_; (try simp only [Act.put, List.setIfInBounds_toArray, List.set_cons_zero, List.set_cons_succ, Nat.reduceAdd]))
    | ((with_reducible refine kg_dst (N := 9) rfl ?_); refine ko_row rfl (by rfl) (fun W K hK => by go_simp; exact hK.out) ?_; intro x9; (try simp only [Act.put, List.setIfInBounds_toArray, List.set_cons_zero, List.set_cons_succ, Nat.reduceAdd]))
    | (refine ko_pure rfl (by rfl) (fun W K hK => by go_simp; exact hK.out) ?_; (try simp only [Act.put, List.setIfInBounds_toArray, List.set_cons_zero, List.set_cons_succ, Nat.reduceAdd]))
    | (refine ko_off (by rfl) ?_; (try simp only [Act.put, List.setIfInBounds_toArray, List.set_cons_zero, List.set_cons_succ, Nat.reduceAdd])))
  refine ko_end ?_
  intro w1 H1
  clear HR H
  have H := H1
  clear H1
  (try simp only [List.map_cons, List.map_nil, cv, List.cons_append, List.nil_append] at H)
  go_wp2
  go_ret
  exact ⟨rfl, H.below⟩
end Go.Proofs.Ytbmfgcekglgliaa.G
