/- Texts Ev, Rx, WGuard, Em, Kr, in one file, without what is not needed here. -/
import Derived.Laws.Rows
import Derived.Lib.Hide
import Derived.BigQuiet
import Derived.Deep.Quiet
import Derived.Barred
import Derived.Test.YtdaohldmojpihaaGreatDoorZNodeForgets0
namespace Go.Proofs.YtdaohldmojpihaaGreatDoorEv
open Go.RowKit Go.Proofs.YtdaohldmojpihaaGreatDoorW.PrintWords Go.Proofs.YtdaohldmojpihaaGreatDoorW.PrintLast Go.Proofs.YtdaohldmojpihaaGreatDoorW.PrintMore
theorem reps_ints (W : World) (xs : List Int) : Reps ((Kd.int .i64).K W) (Kd.int .i64).sz xs (xs.map (Value.int .i64)) := by
  refine ⟨by simp [Kd.int, Kd.scalar], fun j q hq => ?_⟩
  show ((xs.map (Value.int .i64)).drop (j * 1)).take 1 = [Value.int .i64 q]
  rw [Nat.mul_one, List.drop_eq_getElem_cons (by rw [List.length_map]; exact (List.getElem?_eq_some_iff.1 hq).1)]
  simp [(List.getElem?_eq_some_iff.1 hq).2]
theorem reps_one {α : Type} {d : Kd α} {W : World} {x : α} {c : List Value} (h : d.K W x c) : Reps (d.K W) d.sz [x] c := by
  refine ⟨by rw [d.K_len h, List.length_singleton, Nat.one_mul], fun j q hq => ?_⟩
  have hj : j = 0 := by
    have := (List.getElem?_eq_some_iff.1 hq).1
    simpa using this
  subst hj
  have hq' : x = q := by simpa using hq
  subst hq'
  rw [Nat.zero_mul, List.drop_zero, ← d.K_len h, List.take_length]
  exact h
structure Keep (A : Nat → Prop) (W W' : World) : Prop where
  size : W.heap.size ≤ W'.heap.size
  same : ∀ k, k < W.heap.size → ¬ A k → W'.heap[k]? = W.heap[k]?
theorem Keep.refl (A : Nat → Prop) (W : World) : Keep A W W := ⟨Nat.le_refl _, fun _ _ _ => rfl⟩
theorem Keep.trans {A : Nat → Prop} {W W1 W2 : World} (h : Keep A W W1) (g : Keep A W1 W2) : Keep A W W2 :=
  ⟨Nat.le_trans h.size g.size, fun k hk ha => (g.same k (Nat.lt_of_lt_of_le hk h.size) ha).trans (h.same k hk ha)⟩
theorem Keep.mono {A A' : Nat → Prop} {W W' : World} (h : Keep A W W') (hA : ∀ k, k < W.heap.size → A k → A' k) : Keep A' W W' := ⟨h.size, fun k hk ha => h.same k hk (fun g => ha (hA k hk g))⟩
theorem Keep.of_below {A : Nat → Prop} {W W' : World} (h : Below W.heap.size W W') : Keep A W W' := ⟨h.size, fun k hk _ => h.block k hk⟩
abbrev Tr (A : Nat → Prop) (W : World) (p : World → Prop) : Prop := Foot p W (fun k => ¬ A k)
theorem Tr.keep {A : Nat → Prop} {W W1 : World} {p : World → Prop} (h : Tr A W p) (k : Keep A W W1) : Tr A W1 p := Foot.step h (fun j ha hj => k.same j hj ha)
theorem Tr.less {A A' : Nat → Prop} {W : World} {p : World → Prop} (h : Tr A' W p) (hA : ∀ k, k < W.heap.size → A k → A' k) : Tr A W p := fun W' g => h W' (fun k hk hl => g k (fun q => hk (hA k hl q)) hl)
theorem Tr.true (A : Nat → Prop) (W : World) : Tr A W (fun _ => True) := fun _ _ => trivial
theorem Tr.and {A : Nat → Prop} {W : World} {p q : World → Prop} (h : Tr A W p) (g : Tr A W q) : Tr A W (fun W => p W ∧ q W) := fun W' k => ⟨h W' k, g W' k⟩
theorem Tr.of_C {α : Type} {d : Kd α} {W : World} {A1 : Option Addr} {n : Nat} {xs : List α} (h : d.C W A1 n xs) (hd : Kd.Heap d) : Tr (fun _ => False) W (fun W => d.C W A1 n xs) := Foot.mono (Kd.C_F hd h) (fun _ _ => id)
def Of (bl : List (Nat × TypeId × Array Value)) (k : Nat) : Prop := ∃ x, x ∈ bl ∧ x.1 = k
structure Fr (A : Nat → Prop) (w W : World) (bl : List (Nat × TypeId × Array Value)) (p : World → Prop) : Prop where
  av : ∀ k, A k → k < w.heap.size
  below : Below w.heap.size w W
  blk : ∀ x, x ∈ bl → W.heap[x.1]? = some (.cells x.2.2 x.2.1 (0, 0)) ∧ w.heap.size ≤ x.1
  nd : bl.Pairwise (fun x y => x.1 ≠ y.1)
  tr : Tr (fun k => A k ∨ Of bl k) W p
theorem Fr.start {A : Nat → Prop} {w : World} {p : World → Prop} (hA : ∀ k, A k → k < w.heap.size) (h : Tr A w p) : Fr A w w [] p :=
  ⟨hA, Below.refl _ _, fun x hx => by simp at hx, List.Pairwise.nil, Tr.less h (fun k _ g => by rcases g with g | ⟨x, hx, _⟩; exact g; simp at hx)⟩
theorem Fr.alloc {A : Nat → Prop} {w W W1 : World} {bl : List (Nat × TypeId × Array Value)} {p : World → Prop} {g : Nat} {t : TypeId} {cs : Array Value} (h : Fr A w W bl p) (hg : g = W.heap.size) (hb : W1.heap[g]? = some (.cells cs t (0, 0))) (hB : Below W.heap.size W W1) :
    Fr A w W1 ((g, t, cs) :: bl) p := by
  subst hg
  refine ⟨h.av, h.below.trans (hB.mono h.below.size), ?_, ?_, ?_⟩
  · intro x hx
    rcases List.mem_cons.1 hx with rfl | hx
    · exact ⟨hb, h.below.size⟩
    · obtain ⟨h1, h2⟩ := h.blk x hx
      exact ⟨(hB.block _ (blk_lt h1)).trans h1, h2⟩
  · refine List.Pairwise.cons ?_ h.nd
    intro x hx e
    have := blk_lt (h.blk x hx).1
    have e' : W.heap.size = x.1 := e
    omega
  · refine fun W' k => h.tr W' (fun j ha hj => (k j (fun q => ?_) (by have := hB.size; omega)).trans (hB.block j hj))
    rcases q with q | ⟨x, hx, e⟩
    · exact ha (.inl q)
    · rcases List.mem_cons.1 hx with rfl | hx
      · have e' : W.heap.size = j := e
        omega
      · exact ha (.inr ⟨x, hx, e⟩)
inductive At : List (Nat × TypeId × Array Value) → Nat → TypeId → Array Value → Array Value → List (Nat × TypeId × Array Value) → Prop
  | head {g : Nat} {t : TypeId} {old cs : Array Value} {bl : List (Nat × TypeId × Array Value)} : At ((g, t, old) :: bl) g t old cs ((g, t, cs) :: bl)
  | tail {g : Nat} {t : TypeId} {old cs : Array Value} {x : Nat × TypeId × Array Value} {bl bl' : List (Nat × TypeId × Array Value)} (h : At bl g t old cs bl') : At (x :: bl) g t old cs (x :: bl')
theorem At.mem {bl bl' : List (Nat × TypeId × Array Value)} {g : Nat} {t : TypeId} {old cs : Array Value} (h : At bl g t old cs bl') : (g, t, old) ∈ bl := by
  induction h with
  | head => exact List.mem_cons_self
  | tail _ ih => exact List.mem_cons_of_mem _ ih
theorem At.map {bl bl' : List (Nat × TypeId × Array Value)} {g : Nat} {t : TypeId} {old cs : Array Value} (h : At bl g t old cs bl') : bl'.map (·.1) = bl.map (·.1) := by
  induction h with
  | head => rfl
  | tail _ ih => simp [ih]
theorem At.of {bl bl' : List (Nat × TypeId × Array Value)} {g : Nat} {t : TypeId} {old cs : Array Value} (h : At bl g t old cs bl') (k : Nat) : Of bl' k ↔ Of bl k := by
  have e := h.map
  have h1 : ∀ l : List (Nat × TypeId × Array Value), Of l k ↔ k ∈ l.map (·.1) := fun l => by simp [Of]
  rw [h1, h1, e]
theorem At.other {bl bl' : List (Nat × TypeId × Array Value)} {g : Nat} {t : TypeId} {old cs : Array Value} (h : At bl g t old cs bl') (nd : bl.Pairwise (fun x y => x.1 ≠ y.1)) : ∀ x, x ∈ bl' → x = (g, t, cs) ∨ (x ∈ bl ∧ x.1 ≠ g) := by
  induction h with
  | head =>
    intro x hx
    rcases List.mem_cons.1 hx with rfl | hx
    · exact .inl rfl
    · exact .inr ⟨List.mem_cons_of_mem _ hx, fun e => (List.pairwise_cons.1 nd).1 x hx e.symm⟩
  | tail h ih =>
    intro x hx
    rcases List.mem_cons.1 hx with rfl | hx
    · exact .inr ⟨List.mem_cons_self, fun e => (List.pairwise_cons.1 nd).1 _ h.mem e⟩
    · rcases ih (List.pairwise_cons.1 nd).2 x hx with rfl | ⟨h1, h2⟩
      · exact .inl rfl
      · exact .inr ⟨List.mem_cons_of_mem _ h1, h2⟩
theorem pairwise_map {bl bl' : List (Nat × TypeId × Array Value)} (e : bl'.map (·.1) = bl.map (·.1)) (h : bl.Pairwise (fun x y => x.1 ≠ y.1)) : bl'.Pairwise (fun x y => x.1 ≠ y.1) := by
  have h1 : ∀ l : List (Nat × TypeId × Array Value), l.Pairwise (fun x y => x.1 ≠ y.1) ↔ (l.map (·.1)).Pairwise (· ≠ ·) := fun l => by rw [List.pairwise_map]
  rw [h1] at h ⊢
  rw [e]
  exact h
theorem Fr.put {A : Nat → Prop} {w W W1 : World} {bl bl' : List (Nat × TypeId × Array Value)} {p : World → Prop} {g : Nat} {t : TypeId} {old cs : Array Value} (h : Fr A w W bl p) (ha : At bl g t old cs bl') (hb : W1.heap[g]? = some (.cells cs t (0, 0)))
    (hg : W.grownBy W1 (some g)) (hf : ∀ k, k ≠ g → W1.heap[k]? = W.heap[k]?) (hs : W1.heap.size = W.heap.size) : Fr A w W1 bl' p := by
  have hm := h.blk _ ha.mem
  refine ⟨h.av, h.below.grown hg h.below.size (fun k e => by injection e with e; exact e ▸ hm.2), ?_, pairwise_map ha.map h.nd, ?_⟩
  · intro x hx
    rcases ha.other h.nd x hx with rfl | ⟨h1, h2⟩
    · exact ⟨hb, hm.2⟩
    · exact ⟨(hf _ h2).trans (h.blk x h1).1, (h.blk x h1).2⟩
  · refine fun W' k => h.tr W' (fun j hn hj => ?_)
    have hjg : j ≠ g := fun e => hn (.inr ⟨_, ha.mem, e.symm⟩)
    exact (k j (fun q => hn (q.imp id (ha.of j).1)) (by omega)).trans (hf j hjg)
theorem Fr.call {A : Nat → Prop} {w W W1 : World} {bl : List (Nat × TypeId × Array Value)} {p : World → Prop} (h : Fr A w W bl p) (hB : Below W.heap.size W W1) : Fr A w W1 bl p :=
  ⟨h.av, h.below.trans (hB.mono h.below.size), fun x hx => ⟨(hB.block _ (blk_lt (h.blk x hx).1)).trans (h.blk x hx).1, (h.blk x hx).2⟩, h.nd, Tr.keep h.tr (Keep.of_below hB)⟩
theorem Fr.call2 {A : Nat → Prop} {w W W1 : World} {bl : List (Nat × TypeId × Array Value)} {p q : World → Prop} (h : Fr A w W bl p) (hB : Below W.heap.size W W1) (hq : Tr (fun k => A k ∨ Of bl k) W1 q) : Fr A w W1 bl (fun W => p W ∧ q W) :=
  ⟨h.av, h.below.trans (hB.mono h.below.size), fun x hx => ⟨(hB.block _ (blk_lt (h.blk x hx).1)).trans (h.blk x hx).1, (h.blk x hx).2⟩, h.nd, Tr.and (Tr.keep h.tr (Keep.of_below hB)) hq⟩
theorem Fr.imp {A : Nat → Prop} {w W : World} {bl : List (Nat × TypeId × Array Value)} {p q : World → Prop} (h : Fr A w W bl p) (g : ∀ W', p W' → q W') : Fr A w W bl q := ⟨h.av, h.below, h.blk, h.nd, Foot.imp h.tr g⟩
theorem Fr.drop {A : Nat → Prop} {w W : World} {x : Nat × TypeId × Array Value} {bl : List (Nat × TypeId × Array Value)} {p : World → Prop} (h : Fr A w W (x :: bl) p) : Fr A w W bl p :=
  ⟨h.av, h.below, fun y hy => h.blk y (List.mem_cons_of_mem _ hy), (List.pairwise_cons.1 h.nd).2, Tr.less h.tr (fun _ _ g => g.imp id (fun ⟨y, hy, e⟩ => ⟨y, List.mem_cons_of_mem _ hy, e⟩))⟩
theorem Fr.drewN {A : Nat → Prop} {w W : World} {bl : List (Nat × TypeId × Array Value)} {p : World → Prop} (h : Fr A w W bl p) (n : Nat) : Fr A w (W.drewN n) bl p := h.call (pw_below_drewN (Below.refl _ _) n)
theorem Fr.avs {A : Nat → Prop} {w W : World} {bl : List (Nat × TypeId × Array Value)} {p : World → Prop} (h : Fr A w W bl p) : ∀ k, (A k ∨ Of bl k) → k < W.heap.size := by
  rintro k (hk | ⟨x, hx, rfl⟩)
  · exact Nat.lt_of_lt_of_le (h.av k hk) h.below.size
  · exact blk_lt (h.blk x hx).1
theorem Fr.now {A : Nat → Prop} {w W : World} {bl : List (Nat × TypeId × Array Value)} {p : World → Prop} (h : Fr A w W bl p) : p W := Foot.now h.tr
theorem Fr.out {A : Nat → Prop} {w W : World} {bl : List (Nat × TypeId × Array Value)} {p : World → Prop} (h : Fr A w W bl p) : Tr A W p := Tr.less h.tr (fun _ _ g => .inl g)
theorem Fr.cell {A : Nat → Prop} {w W : World} {bl bl' : List (Nat × TypeId × Array Value)} {p : World → Prop} {g : Nat} {t : TypeId} {cs : Array Value} (h : Fr A w W bl p) (ha : At bl g t cs cs bl') (j : Nat) : W.cell? ⟨g, j, none⟩ = cs[j]? := blk_cell (h.blk _ ha.mem).1 j
theorem Fr.frozen {A : Nat → Prop} {w W : World} {bl bl' : List (Nat × TypeId × Array Value)} {p : World → Prop} {g : Nat} {t : TypeId} {cs : Array Value} (h : Fr A w W bl p) (ha : At bl g t cs cs bl') (j : Nat) : W.frozen? ⟨g, j, none⟩ = false := blk_frozen (h.blk _ ha.mem).1 j
section
variable {P : Program} {ops : Array Oper} {rest : List Oper} {o : Oper} {a : Act} {Q : Exit → Act → World → Prop} {A : Nat → Prop} {w W : World} {bl bl' : List (Nat × TypeId × Array Value)} {p : World → Prop}
theorem fr_pure {N : Tmp} (_hd : o.dst = some N) (hgd : o.guard = none) {v : Value} (hrun : ∀ W (K : Result Next → Prop), Hid (K (.ok (.value v) W)) → K ((execOp a.eval o).run P W))
    (h : wpList P ops Q rest (a.put o.dst v) W) : wpList P ops Q (o :: rest) a W := by
  have hr : (execOp a.eval o).run P W = .ok (.value v) W := hrun W (fun r => r = .ok (.value v) W) (Lib.hid rfl)
  refine wpList_plain hgd fun K hK => ?_
  unfold Oper.wp
  rw [hr]
  exact hK _ _ h
theorem fr_new (H : Fr A w W bl p) {N : Tmp} (hd : o.dst = some N) (hgd : o.guard = none) {cs : Array Value} {t : TypeId}
    (hrun : (execOp a.eval o).run P W = .ok (.value (.pointer (some ⟨W.heap.size, 0, none⟩))) (W.alloc (.cells cs t (0, 0))))
    (h : ∀ g w1, Fr A w w1 ((g, t, cs) :: bl) p → wpList P ops Q rest (a.put o.dst (.pointer (some ⟨g, 0, none⟩))) w1) : wpList P ops Q (o :: rest) a W :=
  box_event hgd hd hrun fun g hg w1 hb hB => h g w1 (H.alloc hg hb hB)
theorem fr_box (H : Fr A w W bl p) {t : TypeId} {x : Operand} (ho : o.op = .box t x) (hgd : o.guard = none) {cs : Array Value} (hx : a.eval x = .agg cs)
    (h : ∀ g w1, Fr A w w1 ((g, t, cs) :: bl) p → wpList P ops Q rest (a.put o.dst (.pointer (some ⟨g, 0, none⟩))) w1) : wpList P ops Q (o :: rest) a W := by
  refine Kd.event_run hgd ?_ (h _ _ (H.alloc rfl (blk_new W (.cells cs t (0, 0))) (below_alloc (Below.refl _ _) _)))
  simp [execOp, ho, Instr.box, newVar, newRow, newObj, hx]
  rfl
theorem fr_box1 (H : Fr A w W bl p) {t : TypeId} {x : Operand} (ho : o.op = .box t x) (hgd : o.guard = none) {v : Value} (hx : a.eval x = v) (hv : v.cells = #[v])
    (h : ∀ g w1, Fr A w w1 ((g, t, #[v]) :: bl) p → wpList P ops Q rest (a.put o.dst (.pointer (some ⟨g, 0, none⟩))) w1) : wpList P ops Q (o :: rest) a W := by
  refine Kd.event_run hgd ?_ (h _ _ (H.alloc rfl (blk_new W (.cells #[v] t (0, 0))) (below_alloc (Below.refl _ _) _)))
  simp [execOp, ho, Instr.box, newVar, newRow, newObj, hx, hv]
  rfl
theorem fr_put (H : Fr A w W bl p) {t : TypeId} {x v : Operand} (ho : o.op = .store t x v) (hN : o.dst = none) (hgd : o.guard = none) {g : Nat} {e : TypeId} {old cs : Array Value}
    (hp : a.eval x = .pointer (some ⟨g, 0, none⟩)) (hv : a.eval v = .agg cs) (ha : At bl g e old cs bl') (hs : cs.size = old.size) (ht : (P.info? t).map (·.size) = some cs.size) (h1 : ∀ q ∈ cs.toList, q.oneCell' = true)
    (h : ∀ w1, Fr A w w1 bl' p → wpList P ops Q rest a w1) : wpList P ops Q (o :: rest) a W := by
  have hg := (H.blk _ ha.mem).1
  refine wpList_plain hgd fun K hK => ?_
  have hr := run_store_run (P := P) (w := W) (g := g) (o := 0) (e := e) (cur := old) t (.agg cs) cs.toList hg rfl (by rw [ht, Array.length_toList]) (by rw [Array.length_toList]; omega) h1
  unfold Oper.wp execOp
  simp only [ho, hp, hv, hr, Sem.run_bind, Sem.run_pure, Result.andThen_ok]
  show K (a.put o.dst undef) _
  rw [hN]
  refine hK _ _ (h _ (H.put ha ?_ ?_ ?_ ?_))
  · obtain ⟨cur', h3, h4, h5⟩ := setCells_row cs.toList 0 W old hg (by rw [Array.length_toList]; omega)
    have h6 : cur' = cs := by
      apply Array.ext'
      rw [h5, List.take_zero, List.nil_append, List.drop_eq_nil_of_le (by rw [Array.length_toList, Array.length_toList]; omega), List.append_nil]
    rw [h3, h6]
  · obtain ⟨s1, s2, s3, s4⟩ := setCells_same g cs.toList 0 W
    exact ⟨s1, s2, s3, by rw [s4]; exact Nat.le_refl _, fun k _ hk => setCells_far _ _ k (fun he => hk (by rw [he]))⟩
  · exact fun k hk => setCells_far _ _ k hk
  · exact (setCells_same g cs.toList 0 W).2.2.2
theorem fr_set (H : Fr A w W bl p) {t : TypeId} {x v : Operand} (ho : o.op = .store t x v) (hN : o.dst = none) (hgd : o.guard = none) {g j : Nat} {e : TypeId} {old cs : Array Value} {u : Value}
    (hp : a.eval x = .pointer (some ⟨g, j, none⟩)) (hv : a.eval v = u) (ha : At bl g e old cs bl') (hs : j + u.cells.size ≤ old.size) (hcs : cs.toList = old.toList.take j ++ u.cells.toList ++ old.toList.drop (j + u.cells.size)) (ht : (P.info? t).map (·.size) = some u.cells.size) (h1 : ∀ q ∈ u.cells.toList, q.oneCell' = true)
    (h : ∀ w1, Fr A w w1 bl' p → wpList P ops Q rest a w1) : wpList P ops Q (o :: rest) a W := by
  have hg := (H.blk _ ha.mem).1
  refine wpList_plain hgd fun K hK => ?_
  have hr := run_store_run (P := P) (w := W) (g := g) (o := j) (e := e) (cur := old) t u u.cells.toList hg rfl (by rw [ht, Array.length_toList]) (by rw [Array.length_toList]; omega) h1
  unfold Oper.wp execOp
  simp only [ho, hp, hv, hr, Sem.run_bind, Sem.run_pure, Result.andThen_ok]
  show K (a.put o.dst undef) _
  rw [hN]
  refine hK _ _ (h _ (H.put ha ?_ ?_ ?_ ?_))
  · obtain ⟨cur', h3, h4, h5⟩ := setCells_row u.cells.toList j W old hg (by rw [Array.length_toList]; omega)
    have h6 : cur' = cs := by
      apply Array.ext'
      rw [h5, hcs, Array.length_toList]
    rw [h3, h6]
  · obtain ⟨s1, s2, s3, s4⟩ := setCells_same g u.cells.toList j W
    exact ⟨s1, s2, s3, by rw [s4]; exact Nat.le_refl _, fun k _ hk => setCells_far _ _ k (fun he => hk (by rw [he]))⟩
  · exact fun k hk => setCells_far _ _ k hk
  · exact (setCells_same g u.cells.toList j W).2.2.2
theorem fr_load (H : Fr A w W bl p) {ty : TypeId} {x : Operand} (ho : o.op = .load ty x) (hgd : o.guard = none) {g : Nat} {e : TypeId} {cs : Array Value} {d : TypeDesc}
    (hx : a.eval x = .pointer (some ⟨g, 0, none⟩)) (ha : At bl g e cs cs bl') (hu : P.underlying ty = some d) (hd : (match d with | .struct _ | .array _ _ => true | _ => false) = true) (hi : (P.info? ty).map (·.size) = some cs.size)
    (h : wpList P ops Q rest (a.put o.dst (.agg cs)) W) : wpList P ops Q (o :: rest) a W :=
  wpList_load_row hgd ty x ho g hx e cs (0, 0) d (H.blk _ ha.mem).1 hu hd hi h
theorem load_cell {ty : TypeId} {x : Operand} (ho : o.op = .load ty x) (hgd : o.guard = none) {ad : Addr} {d : TypeDesc} {v : Value}
    (hx : a.eval x = .pointer (some ad)) (hu : P.underlying ty = some d) (hd : (match d with | .struct _ | .array _ _ => true | _ => false) = false) (hc : W.cell? ad = some v)
    (h : wpList P ops Q rest (a.put o.dst v) W) : wpList P ops Q (o :: rest) a W := by
  refine wpList_plain hgd fun K hK => ?_
  have hagg : (isAgg ty).run P W = .ok false W := by
    unfold isAgg
    rw [Sem.run_bind, run_underlying hu W]
    cases d <;> simp_all
  have hlv : (loadVar ty ad).run P W = .ok v W := by simp [loadVar, Sem.run_bind, hagg, hc]
  unfold Oper.wp execOp
  simp only [ho, hx, Instr.loadAt, Instr.sureAddr, Sem.run_bind, Sem.run_pure, Result.andThen_ok, hlv]
  exact hK _ _ h
theorem fr_get (H : Fr A w W bl p) {ty : TypeId} {x : Operand} (ho : o.op = .load ty x) (hgd : o.guard = none) {g j : Nat} {e : TypeId} {cs : Array Value} {d : TypeDesc} {v : Value}
    (hx : a.eval x = .pointer (some ⟨g, j, none⟩)) (ha : At bl g e cs cs bl') (hu : P.underlying ty = some d) (hd : (match d with | .struct _ | .array _ _ => true | _ => false) = false) (hc : cs[j]? = some v)
    (h : wpList P ops Q rest (a.put o.dst v) W) : wpList P ops Q (o :: rest) a W :=
  load_cell ho hgd hx hu hd ((H.cell ha j).trans hc) h
theorem load_cells {ty : TypeId} {x : Operand} (ho : o.op = .load ty x) (hgd : o.guard = none) {ad : Addr} {d : TypeDesc} {cs : List Value}
    (hx : a.eval x = .pointer (some ad)) (hu : P.underlying ty = some d) (hd : (match d with | .struct _ | .array _ _ => true | _ => false) = true) (hi : (P.info? ty).map (·.size) = some cs.length) (hc : ∀ j u, cs[j]? = some u → W.cell? (ad.add j) = some u)
    (h : wpList P ops Q rest (a.put o.dst (.agg cs.toArray)) W) : wpList P ops Q (o :: rest) a W := by
  refine wpList_plain hgd fun K hK => ?_
  have hagg : (isAgg ty).run P W = .ok true W := by
    unfold isAgg
    rw [Sem.run_bind, run_underlying hu W]
    cases d <;> simp_all
  obtain ⟨i, hq, hs⟩ := Option.map_eq_some_iff.1 hi
  have hl := run_loadCells_list (P := P) W ad cs hc
  have hlv : (loadVar ty ad).run P W = .ok (.agg cs.toArray) W := by simp [loadVar, Sem.run_bind, hagg, sizeOf, typeInfo, hq, hs, hl]
  unfold Oper.wp execOp
  simp only [ho, hx, Instr.loadAt, Instr.sureAddr, Sem.run_bind, Sem.run_pure, Result.andThen_ok, hlv]
  exact hK _ _ h
theorem fr_sub (H : Fr A w W bl p) {ty : TypeId} {x : Operand} (ho : o.op = .load ty x) (hgd : o.guard = none) {g j n : Nat} {e : TypeId} {cs : Array Value} {d : TypeDesc} {vs : List Value}
    (hx : a.eval x = .pointer (some ⟨g, j, none⟩)) (ha : At bl g e cs cs bl') (hu : P.underlying ty = some d) (hd : (match d with | .struct _ | .array _ _ => true | _ => false) = true) (hi : (P.info? ty).map (·.size) = some n) (hv : (cs.toList.drop j).take n = vs) (hn : n = vs.length)
    (h : wpList P ops Q rest (a.put o.dst (.agg vs.toArray)) W) : wpList P ops Q (o :: rest) a W := by
  refine load_cells ho hgd hx hu hd (hn ▸ hi) (fun i u hu => ?_) h
  have hi : i < n := by rw [hn]; exact (List.getElem?_eq_some_iff.1 hu).1
  rw [← hv, List.getElem?_take, if_pos hi, List.getElem?_drop] at hu
  have hc := H.cell ha (j + i)
  rw [show ((⟨g, j, none⟩ : Addr).add i) = ⟨g, j + i, none⟩ by
    unfold Addr.add
    split
    · rename_i h0; rw [h0]; rfl
    · rfl, hc]
  simpa using hu
end
section
variable {P : Program} {ops : Array Oper} {rest : List Oper} {o : Oper} {a : Act} {Q : Act → Prop} {A : Nat → Prop} {w : World} {bl bl' : List (Nat × TypeId × Array Value)} {p : World → Prop}
def Frs (A : Nat → Prop) (w : World) (bl : List (Nat × TypeId × Array Value)) (p : World → Prop) : World → Prop := fun W => Fr A w W bl p
end
end Go.Proofs.YtdaohldmojpihaaGreatDoorEv

namespace Go.Proofs.YtdaohldmojpihaaGreatDoorRx
open Go.RowKit Go.Proofs.YtdaohldmojpihaaGreatDoorW.PrintWords Go.Proofs.YtdaohldmojpihaaGreatDoorW.PrintLast Go.Proofs.YtdaohldmojpihaaGreatDoorW.PrintMore Go.Proofs.YtdaohldmojpihaaGreatDoorEv
def pre (n k : Nat) : Array Bool := (List.replicate k true ++ List.replicate (n - k) false).toArray
theorem pre_zero (n : Nat) : Array.replicate n false = pre n 0 := by
  simp [pre, ← List.toArray_replicate]
def Rg (P : Program) (ops : Array Oper) (Q : Exit → Act → World → Prop) (S : World → Prop) (n k : Nat) (a : Act) (w : World) : Prop := wpAnyLast P .any ops Q S [] (n - k) (pre n k) a w
section
variable {P : Program} {ops : Array Oper} {Q : Exit → Act → World → Prop} {S : World → Prop} {n k : Nat} {a : Act} {w : World} {oi : Oper} {v : Value}
theorem rg_start (S : World → Prop) (n : Nat) {id : Nat} (hm : P.follows .mixedOrders = true) (hn : ops.size = n) (hS : S w.drew) (h : S w.drew → Rg P ops Q S n 0 a w.drew) : (Code.region id ops true).wp P Q a w :=
  start_ (ds := []) (pre n 0) hm hn (pre_zero n) hS h
theorem fuel_ (hk : k < n) : n - k = (n - (k + 1)) + 1 := by omega
theorem rg_pure (hi : ops[k]? = some oi) (hc : (decide (k < n) && anyB .any ops (pre n k) (pre n (k + 1)) k) = true) (hQ : ∀ c a w, Q (.panic c) (a.put oi.dst v) w → Q (.panic c) a w)
    (hw : Region.wanted oi (yielded ops a.tmps) = true) (hy : ∀ w, (execOp a.eval oi).run P w = .ok (.value v) w) (h : Rg P ops Q S n (k + 1) (a.put oi.dst v) w) : Rg P ops Q S n k a w := by
  simp only [Bool.and_eq_true, decide_eq_true_eq] at hc
  unfold Rg at h ⊢
  rw [fuel_ hc.1]
  exact pure_ (pre n (k + 1)) hi rfl hc.2 hQ (.inl ⟨hw, hy⟩) rfl h
theorem rg_take (hi : ops[k]? = some oi) (hc : (decide (k < n) && takeB .any ops [] (pre n k) (pre n (k + 1)) k) = true) (hQ : ∀ c a w, Q (.panic c) (a.put oi.dst v) w → Q (.panic c) a w)
    (hw : Region.wanted oi (yielded ops a.tmps) = true) (hS : S w) (hy : ∀ w, S w → (execOp a.eval oi).run P w = .ok (.value v) w) (h : Rg P ops Q S n (k + 1) (a.put oi.dst v) w) : Rg P ops Q S n k a w := by
  simp only [Bool.and_eq_true, decide_eq_true_eq] at hc
  unfold Rg at h ⊢
  rw [fuel_ hc.1]
  exact take_ (pre n (k + 1)) hi rfl hc.2 hQ (.inl ⟨hw, hy⟩) hS rfl h
theorem rg_one (hi : ops[k]? = some oi) (hc : (decide (k < n) && readyB .any ops (pre n k) (pre n (k + 1)) k) = true)
    (hw : Region.wanted oi (yielded ops a.tmps) = true) (h : ∀ K : Act → World → Prop, (∀ a' w', S w' → (S w' → Rg P ops Q S n (k + 1) a' w') → K a' w') → Oper.wp P oi a w K Q) : Rg P ops Q S n k a w := by
  simp only [Bool.and_eq_true, decide_eq_true_eq] at hc
  unfold Rg at h ⊢
  rw [fuel_ hc.1]
  refine one_ (pre n (k + 1)) hi rfl hc.2 (by simp) (fun K hK => ?_)
  rw [if_pos hw]
  exact h K hK
theorem rg_done (hr : (Region.ready .any ops (pre n k) == []) = true) (h : Q .normal a w) : Rg P ops Q S n k a w := done_ hr h
end
section
variable {P : Program} {ops : Array Oper} {Q : Exit → Act → World → Prop} {S : World → Prop} {n k : Nat} {a : Act} {w : World} {oi : Oper} {rest : List Oper} {v : Value}
def RL (P : Program) (ops : Array Oper) (Q : Exit → Act → World → Prop) (S : World → Prop) (n k : Nat) (rest : List Oper) (a : Act) (w : World) : Prop := ops.toList.drop k = rest → Rg P ops Q S n k a w
theorem rl_hd (e : ops.toList.drop k = oi :: rest) : ops[k]? = some oi := by
  rw [← Array.getElem?_toList, show k = k + 0 from rfl, ← List.getElem?_drop, e]
  rfl
theorem rl_tl (e : ops.toList.drop k = oi :: rest) : ops.toList.drop (k + 1) = rest := by
  rw [← List.drop_drop, e]
  rfl
theorem rl_start (S : World → Prop) (n : Nat) {id : Nat} {l : List Oper} (hm : P.follows .mixedOrders = true) (hn : l.length = n) (hS : S w.drew) (h : S w.drew → RL P l.toArray Q S n 0 l a w.drew) : (Code.region id l.toArray true).wp P Q a w :=
  rg_start S n hm (by simpa using hn) hS (fun h1 => h h1 rfl)
theorem rl_pure (hc : (decide (k < n) && anyB .any ops (pre n k) (pre n (k + 1)) k) = true) (hQ : ∀ c a w, Q (.panic c) (a.put oi.dst v) w → Q (.panic c) a w)
    (hw : Region.wanted oi (yielded ops a.tmps) = true) (hy : ∀ w, (execOp a.eval oi).run P w = .ok (.value v) w) (h : RL P ops Q S n (k + 1) rest (a.put oi.dst v) w) : RL P ops Q S n k (oi :: rest) a w :=
  fun e => rg_pure (rl_hd e) hc hQ hw hy (h (rl_tl e))
theorem rl_take (hc : (decide (k < n) && takeB .any ops [] (pre n k) (pre n (k + 1)) k) = true) (hQ : ∀ c a w, Q (.panic c) (a.put oi.dst v) w → Q (.panic c) a w)
    (hw : Region.wanted oi (yielded ops a.tmps) = true) (hS : S w) (hy : ∀ w, S w → (execOp a.eval oi).run P w = .ok (.value v) w) (h : RL P ops Q S n (k + 1) rest (a.put oi.dst v) w) : RL P ops Q S n k (oi :: rest) a w :=
  fun e => rg_take (rl_hd e) hc hQ hw hS hy (h (rl_tl e))
theorem rl_pureK (hc : (decide (k < n) && anyB .any ops (pre n k) (pre n (k + 1)) k) = true) (hQ : ∀ c a w, Q (.panic c) (a.put oi.dst v) w → Q (.panic c) a w)
    (hw : Region.wanted oi (yielded ops a.tmps) = true) (hy : ∀ w (K : Result Next → Prop), Hid (K (.ok (.value v) w)) → K ((execOp a.eval oi).run P w)) (h : RL P ops Q S n (k + 1) rest (a.put oi.dst v) w) : RL P ops Q S n k (oi :: rest) a w :=
  rl_pure hc hQ hw (fun w => hy w (fun r => r = .ok (.value v) w) (Lib.hid rfl)) h
theorem rlg_load {ty : TypeId} {x : Operand} (_ho : oi.op = .load ty x) (h : RL P ops Q S n k (oi :: rest) a w) : RL P ops Q S n k (oi :: rest) a w := h
theorem rl_cells {ty : TypeId} {x : Operand} {ad : Addr} {d : TypeDesc} {cs : List Value} (ho : oi.op = .load ty x) (hc : (decide (k < n) && takeB .any ops [] (pre n k) (pre n (k + 1)) k) = true) (hQ : ∀ c a w, Q (.panic c) (a.put oi.dst (.agg cs.toArray)) w → Q (.panic c) a w)
    (hw : Region.wanted oi (yielded ops a.tmps) = true) (hS : S w) (hx : a.eval x = .pointer (some ad)) (hu : P.underlying ty = some d) (hd : (match d with | .struct _ | .array _ _ => true | _ => false) = true) (hi : (P.info? ty).map (·.size) = some cs.length) (hcc : ∀ W, S W → ∀ j u, cs[j]? = some u → W.cell? (ad.add j) = some u)
    (h : RL P ops Q S n (k + 1) rest (a.put oi.dst (.agg cs.toArray)) w) : RL P ops Q S n k (oi :: rest) a w := by
  refine rl_take hc hQ hw hS (fun W hW => ?_) h
  have hl := run_loadCells_list (P := P) W ad cs (hcc W hW)
  have hagg : (isAgg ty).run P W = .ok true W := by
    unfold isAgg
    rw [Sem.run_bind, run_underlying hu W]
    cases d <;> simp_all
  obtain ⟨i, hq, hs⟩ := Option.map_eq_some_iff.1 hi
  have hlv : (loadVar ty ad).run P W = .ok (.agg cs.toArray) W := by simp [loadVar, Sem.run_bind, hagg, sizeOf, typeInfo, hq, hs, hl]
  unfold execOp
  simp only [ho, hx, Instr.loadAt, Instr.sureAddr, Sem.run_bind, Sem.run_pure, Result.andThen_ok, hlv]
theorem rl_cell {ty : TypeId} {x : Operand} {ad : Addr} {d : TypeDesc} {v : Value} (ho : oi.op = .load ty x) (hc : (decide (k < n) && takeB .any ops [] (pre n k) (pre n (k + 1)) k) = true) (hQ : ∀ c a w, Q (.panic c) (a.put oi.dst v) w → Q (.panic c) a w)
    (hw : Region.wanted oi (yielded ops a.tmps) = true) (hS : S w) (hx : a.eval x = .pointer (some ad)) (hu : P.underlying ty = some d) (hd : (match d with | .struct _ | .array _ _ => true | _ => false) = false) (hcc : ∀ W, S W → W.cell? ad = some v)
    (h : RL P ops Q S n (k + 1) rest (a.put oi.dst v) w) : RL P ops Q S n k (oi :: rest) a w := by
  refine rl_take hc hQ hw hS (fun W hW => ?_) h
  have hagg : (isAgg ty).run P W = .ok false W := by
    unfold isAgg
    rw [Sem.run_bind, run_underlying hu W]
    cases d <;> simp_all
  have hlv : (loadVar ty ad).run P W = .ok v W := by simp [loadVar, Sem.run_bind, hagg, hcc W hW]
  unfold execOp
  simp only [ho, hx, Instr.loadAt, Instr.sureAddr, Sem.run_bind, Sem.run_pure, Result.andThen_ok, hlv]
theorem rl_map {ty : TypeId} {m x u : Operand} {b : Nat} {key val : Value} {w1 : World} (hop : oi.op = .mapUpdate ty m x u) (hc : (decide (k < n) && readyB .any ops (pre n k) (pre n (k + 1)) k) = true)
    (hw : Region.wanted oi (yielded ops a.tmps) = true) (hm : a.eval m = .map (some b)) (hx : a.eval x = key) (hv : a.eval u = val) (hrun : (Instr.mapUpdate ty (.map (some b)) key val).run P w = .ok () w1) (hS : S w1)
    (h : S w1 → RL P ops Q S n (k + 1) rest (a.put oi.dst undef) w1) : RL P ops Q S n k (oi :: rest) a w := fun e =>
  rg_one (rl_hd e) hc hw fun K hK => by
    unfold Oper.wp
    simp [execOp, hop, hm, hx, hv, hrun, Result.andThen]
    exact hK _ _ hS (fun h1 => h h1 (rl_tl e))
theorem rl_done (hr : (Region.ready .any ops (pre n k) == []) = true) (h : Q .normal a w) : RL P ops Q S n k [] a w := fun _ => rg_done hr h
end
end Go.Proofs.YtdaohldmojpihaaGreatDoorRx

namespace Go.Proofs.YtdaohldmojpihaaGreatDoorW.PrintWords
open Go.RowKit
section
variable {P : Program} {ops : Array Oper} {rest : List Oper} {o : Oper} {a : Act} {Q : Exit → Act → World → Prop} {W : World}
theorem gate_guard (hw : Region.wanted o (yielded ops a.tmps) = true) (h : wpList P ops Q ({ o with guard := none } :: rest) a W) : wpList P ops Q (o :: rest) a W := by
  have h1 : Region.wanted { o with guard := none } (yielded ops a.tmps) = true := rfl
  unfold wpList at h ⊢
  rw [if_pos h1] at h
  rw [if_pos hw]
  exact h
end
end Go.Proofs.YtdaohldmojpihaaGreatDoorW.PrintWords

namespace Go.Proofs.YtdaohldmojpihaaGreatDoorEm
open Go.RowKit Go.Proofs.YtdaohldmojpihaaGreatDoorW.PrintWords Go.Proofs.YtdaohldmojpihaaGreatDoorW.PrintLast Go.Proofs.YtdaohldmojpihaaGreatDoorW.PrintMore
abbrev Keep (A : Nat → Prop) (W W' : World) : Prop := Go.Proofs.YtdaohldmojpihaaGreatDoorEv.Keep A W W'
abbrev Tr (A : Nat → Prop) (W : World) (p : World → Prop) : Prop := Go.Proofs.YtdaohldmojpihaaGreatDoorEv.Tr A W p
abbrev reps_ints := @Go.Proofs.YtdaohldmojpihaaGreatDoorEv.reps_ints
abbrev reps_one := @Go.Proofs.YtdaohldmojpihaaGreatDoorEv.reps_one
abbrev load_cell := @Go.Proofs.YtdaohldmojpihaaGreatDoorEv.load_cell
abbrev load_cells := @Go.Proofs.YtdaohldmojpihaaGreatDoorEv.load_cells
set_option linter.unusedVariables false
abbrev Keep.of_below := @Go.Proofs.YtdaohldmojpihaaGreatDoorEv.Keep.of_below
abbrev Keep.refl := @Go.Proofs.YtdaohldmojpihaaGreatDoorEv.Keep.refl
abbrev Keep.trans := @Go.Proofs.YtdaohldmojpihaaGreatDoorEv.Keep.trans
abbrev Keep.mono := @Go.Proofs.YtdaohldmojpihaaGreatDoorEv.Keep.mono
abbrev Tr.keep := @Go.Proofs.YtdaohldmojpihaaGreatDoorEv.Tr.keep
abbrev Tr.less := @Go.Proofs.YtdaohldmojpihaaGreatDoorEv.Tr.less
abbrev Tr.and := @Go.Proofs.YtdaohldmojpihaaGreatDoorEv.Tr.and
structure Chg (M : Nat → Prop) (w W : World) : Prop where
  os : W.os = w.os
  tape : W.tape = w.tape
  output : W.output = w.output
  size : w.heap.size ≤ W.heap.size
  block : ∀ k, k < w.heap.size → ¬ M k → W.heap[k]? = w.heap[k]?
theorem Chg.refl (M : Nat → Prop) (w : World) : Chg M w w := ⟨rfl, rfl, rfl, Nat.le_refl _, fun _ _ _ => rfl⟩
theorem Chg.trans {M : Nat → Prop} {a b c : World} (h : Chg M a b) (g : Chg M b c) : Chg M a c :=
  ⟨g.os.trans h.os, g.tape.trans h.tape, g.output.trans h.output, Nat.le_trans h.size g.size, fun k hk hm => (g.block k (Nat.lt_of_lt_of_le hk h.size) hm).trans (h.block k hk hm)⟩
theorem Chg.mono {M M' : Nat → Prop} {w W : World} (h : Chg M w W) (hm : ∀ k, k < w.heap.size → M k → M' k) : Chg M' w W := ⟨h.os, h.tape, h.output, h.size, fun k hk hn => h.block k hk (fun q => hn (hm k hk q))⟩
theorem Chg.of_below {M : Nat → Prop} {w W : World} (h : Below w.heap.size w W) : Chg M w W := ⟨h.os, h.tape, h.output, h.size, fun k hk _ => h.block k hk⟩
theorem Chg.below {w W : World} (h : Chg (fun _ => False) w W) : Below w.heap.size w W := ⟨h.os, h.tape, h.output, h.size, fun k hk => h.block k hk id⟩
theorem Chg.keep {M : Nat → Prop} {w W : World} (h : Chg M w W) : Keep M w W := ⟨h.size, h.block⟩
theorem Chg.of_grown {M : Nat → Prop} {w W : World} {r : Option Nat} (h : w.grownBy W r) (hr : ∀ k, r = some k → k < w.heap.size → M k) : Chg M w W := ⟨h.os, h.tape, h.output, h.size, fun k hk hn => h.block k hk (fun e => hn (hr k e.symm hk))⟩
theorem Chg.grown {w W : World} {g : Nat} (h : Chg (fun k => k = g) w W) : w.grownBy W (some g) := ⟨h.os, h.tape, h.output, h.size, fun k hk hn => h.block k hk (fun e => hn (by rw [e]))⟩
def Of (bl : List (Nat × Obj)) (k : Nat) : Prop := ∃ x, x ∈ bl ∧ x.1 = k
structure Fr (M A : Nat → Prop) (w W : World) (bl : List (Nat × Obj)) (p : World → Prop) : Prop where
  av : ∀ k, A k → k < w.heap.size
  chg : Chg M w W
  blk : ∀ x, x ∈ bl → W.heap[x.1]? = some x.2 ∧ (w.heap.size ≤ x.1 ∨ M x.1)
  nd : bl.Pairwise (fun x y => x.1 ≠ y.1)
  tr : Tr (fun k => A k ∨ Of bl k) W p
theorem Fr.start {M A : Nat → Prop} {w : World} {bl : List (Nat × Obj)} {p : World → Prop} (hA : ∀ k, A k → k < w.heap.size) (hb : ∀ x, x ∈ bl → w.heap[x.1]? = some x.2 ∧ M x.1) (nd : bl.Pairwise (fun x y => x.1 ≠ y.1)) (h : Tr (fun k => A k ∨ Of bl k) w p) : Fr M A w w bl p :=
  ⟨hA, Chg.refl _ _, fun x hx => ⟨(hb x hx).1, .inr (hb x hx).2⟩, nd, h⟩
theorem Fr.start0 {M A : Nat → Prop} {w : World} {p : World → Prop} (hA : ∀ k, A k → k < w.heap.size) (h : Tr A w p) : Fr M A w w [] p :=
  Fr.start hA (fun x hx => by simp at hx) List.Pairwise.nil (Tr.less h (fun k _ g => by rcases g with g | ⟨x, hx, _⟩; exact g; simp at hx))
theorem Fr.start1 {M A : Nat → Prop} {w : World} {g : Nat} {o : Obj} {p : World → Prop} (hA : ∀ k, A k → k < w.heap.size) (hb : w.heap[g]? = some o) (hM : M g) (h : Tr (fun k => A k ∨ k = g) w p) : Fr M A w w [(g, o)] p :=
  Fr.start hA (fun x hx => by simp at hx; subst hx; exact ⟨hb, hM⟩) (by simp) (Tr.less h (fun k _ q => q.imp id (fun ⟨x, hx, e⟩ => by simp at hx; subst hx; exact e.symm)))
theorem obj_lt {w : World} {k : Nat} {o : Obj} (h : w.heap[k]? = some o) : k < w.heap.size := by
  rcases Nat.lt_or_ge k w.heap.size with g | g
  · exact g
  · simp [Array.getElem?_eq_none g] at h
theorem Fr.allocO {M A : Nat → Prop} {w W W1 : World} {bl : List (Nat × Obj)} {p : World → Prop} {g : Nat} {ob : Obj} (h : Fr M A w W bl p) (hg : g = W.heap.size) (hb : W1.heap[g]? = some ob) (hB : Below W.heap.size W W1) :
    Fr M A w W1 ((g, ob) :: bl) p := by
  subst hg
  refine ⟨h.av, h.chg.trans (Chg.of_below hB), ?_, ?_, ?_⟩
  · intro x hx
    rcases List.mem_cons.1 hx with rfl | hx
    · exact ⟨hb, .inl h.chg.size⟩
    · obtain ⟨h1, h2⟩ := h.blk x hx
      exact ⟨(hB.block _ (obj_lt h1)).trans h1, h2⟩
  · refine List.Pairwise.cons ?_ h.nd
    intro x hx e
    have := obj_lt (h.blk x hx).1
    have e' : W.heap.size = x.1 := e
    omega
  · refine fun W' k => h.tr W' (fun j ha hj => (k j (fun q => ?_) (by have := hB.size; omega)).trans (hB.block j hj))
    rcases q with q | ⟨x, hx, e⟩
    · exact ha (.inl q)
    · rcases List.mem_cons.1 hx with rfl | hx
      · have e' : W.heap.size = j := e
        omega
      · exact ha (.inr ⟨x, hx, e⟩)
theorem Fr.alloc {M A : Nat → Prop} {w W W1 : World} {bl : List (Nat × Obj)} {p : World → Prop} {g : Nat} {t : TypeId} {cs : Array Value} (h : Fr M A w W bl p) (hg : g = W.heap.size) (hb : W1.heap[g]? = some (.cells cs t (0, 0))) (hB : Below W.heap.size W W1) :
    Fr M A w W1 ((g, .cells cs t (0, 0)) :: bl) p := h.allocO hg hb hB
inductive At : List (Nat × Obj) → Nat → Obj → Obj → List (Nat × Obj) → Prop
  | head {g : Nat} {old new : Obj} {bl : List (Nat × Obj)} : At ((g, old) :: bl) g old new ((g, new) :: bl)
  | tail {g : Nat} {old new : Obj} {x : Nat × Obj} {bl bl' : List (Nat × Obj)} (h : At bl g old new bl') : At (x :: bl) g old new (x :: bl')
theorem At.mem {bl bl' : List (Nat × Obj)} {g : Nat} {old new : Obj} (h : At bl g old new bl') : (g, old) ∈ bl := by
  induction h with
  | head => exact List.mem_cons_self
  | tail _ ih => exact List.mem_cons_of_mem _ ih
theorem At.map {bl bl' : List (Nat × Obj)} {g : Nat} {old new : Obj} (h : At bl g old new bl') : bl'.map (·.1) = bl.map (·.1) := by
  induction h with
  | head => rfl
  | tail _ ih => simp [ih]
theorem At.of {bl bl' : List (Nat × Obj)} {g : Nat} {old new : Obj} (h : At bl g old new bl') (k : Nat) : Of bl' k ↔ Of bl k := by
  have e := h.map
  have h1 : ∀ l : List (Nat × Obj), Of l k ↔ k ∈ l.map (·.1) := fun l => by simp [Of]
  rw [h1, h1, e]
theorem At.other {bl bl' : List (Nat × Obj)} {g : Nat} {old new : Obj} (h : At bl g old new bl') (nd : bl.Pairwise (fun x y => x.1 ≠ y.1)) : ∀ x, x ∈ bl' → x = (g, new) ∨ (x ∈ bl ∧ x.1 ≠ g) := by
  induction h with
  | head =>
    intro x hx
    rcases List.mem_cons.1 hx with rfl | hx
    · exact .inl rfl
    · exact .inr ⟨List.mem_cons_of_mem _ hx, fun e => (List.pairwise_cons.1 nd).1 x hx e.symm⟩
  | tail h ih =>
    intro x hx
    rcases List.mem_cons.1 hx with rfl | hx
    · exact .inr ⟨List.mem_cons_self, fun e => (List.pairwise_cons.1 nd).1 _ h.mem e⟩
    · rcases ih (List.pairwise_cons.1 nd).2 x hx with rfl | ⟨h1, h2⟩
      · exact .inl rfl
      · exact .inr ⟨List.mem_cons_of_mem _ h1, h2⟩
theorem pairwise_map {bl bl' : List (Nat × Obj)} (e : bl'.map (·.1) = bl.map (·.1)) (h : bl.Pairwise (fun x y => x.1 ≠ y.1)) : bl'.Pairwise (fun x y => x.1 ≠ y.1) := by
  have h1 : ∀ l : List (Nat × Obj), l.Pairwise (fun x y => x.1 ≠ y.1) ↔ (l.map (·.1)).Pairwise (· ≠ ·) := fun l => by rw [List.pairwise_map]
  rw [h1] at h ⊢
  rw [e]
  exact h
theorem Fr.turn {M A : Nat → Prop} {w W W1 : World} {bl bl' : List (Nat × Obj)} {p : World → Prop} {g : Nat} {old new : Obj} (h : Fr M A w W bl p) (ha : At bl g old new bl') (hb : W1.heap[g]? = some new) (hc : Chg (fun k => k = g) W W1) : Fr M A w W1 bl' p := by
  have hm := h.blk _ ha.mem
  refine ⟨h.av, ⟨hc.os.trans h.chg.os, hc.tape.trans h.chg.tape, hc.output.trans h.chg.output, Nat.le_trans h.chg.size hc.size, fun k hk hn => ?_⟩, ?_, pairwise_map ha.map h.nd, ?_⟩
  · refine (hc.block k (Nat.lt_of_lt_of_le hk h.chg.size) (fun e => ?_)).trans (h.chg.block k hk hn)
    subst e
    rcases hm.2 with q | q
    · have q' : w.heap.size ≤ k := q
      omega
    · exact hn q
  · intro x hx
    rcases ha.other h.nd x hx with rfl | ⟨h1, h2⟩
    · exact ⟨hb, hm.2⟩
    · exact ⟨(hc.block _ (obj_lt (h.blk x h1).1) h2).trans (h.blk x h1).1, (h.blk x h1).2⟩
  · refine fun W' k => h.tr W' (fun j hn hj => ?_)
    have hjg : j ≠ g := fun e => hn (.inr ⟨_, ha.mem, e.symm⟩)
    exact (k j (fun q => hn (q.imp id (ha.of j).1)) (Nat.lt_of_lt_of_le hj hc.size)).trans (hc.block j hj hjg)
theorem Fr.put {M A : Nat → Prop} {w W W1 : World} {bl bl' : List (Nat × Obj)} {p : World → Prop} {g : Nat} {t : TypeId} {old cs : Array Value} (h : Fr M A w W bl p) (ha : At bl g (.cells old t (0, 0)) (.cells cs t (0, 0)) bl') (hb : W1.heap[g]? = some (.cells cs t (0, 0)))
    (hg : W.grownBy W1 (some g)) (hf : ∀ k, k ≠ g → W1.heap[k]? = W.heap[k]?) (hs : W1.heap.size = W.heap.size) : Fr M A w W1 bl' p :=
  h.turn ha hb (Chg.of_grown hg (fun k e _ => (Option.some.inj e).symm))
theorem Fr.call {M A : Nat → Prop} {w W W1 : World} {bl : List (Nat × Obj)} {p : World → Prop} (h : Fr M A w W bl p) (hB : Below W.heap.size W W1) : Fr M A w W1 bl p :=
  ⟨h.av, h.chg.trans (Chg.of_below hB), fun x hx => ⟨(hB.block _ (obj_lt (h.blk x hx).1)).trans (h.blk x hx).1, (h.blk x hx).2⟩, h.nd, Tr.keep h.tr (Keep.of_below hB)⟩
theorem Fr.call2 {M A : Nat → Prop} {w W W1 : World} {bl : List (Nat × Obj)} {p q : World → Prop} (h : Fr M A w W bl p) (hB : Below W.heap.size W W1) (hq : Tr (fun k => A k ∨ Of bl k) W1 q) : Fr M A w W1 bl (fun W => p W ∧ q W) :=
  ⟨h.av, h.chg.trans (Chg.of_below hB), fun x hx => ⟨(hB.block _ (obj_lt (h.blk x hx).1)).trans (h.blk x hx).1, (h.blk x hx).2⟩, h.nd, Tr.and (Tr.keep h.tr (Keep.of_below hB)) hq⟩
theorem Fr.and {M A : Nat → Prop} {w W : World} {bl : List (Nat × Obj)} {p q : World → Prop} (h : Fr M A w W bl p) (hq : Tr (fun k => A k ∨ Of bl k) W q) : Fr M A w W bl (fun W => p W ∧ q W) := ⟨h.av, h.chg, h.blk, h.nd, Tr.and h.tr hq⟩
theorem Fr.imp {M A : Nat → Prop} {w W : World} {bl : List (Nat × Obj)} {p q : World → Prop} (h : Fr M A w W bl p) (g : ∀ W', p W' → q W') : Fr M A w W bl q := ⟨h.av, h.chg, h.blk, h.nd, Foot.imp h.tr g⟩
theorem Fr.drop {M A : Nat → Prop} {w W : World} {x : Nat × Obj} {bl : List (Nat × Obj)} {p : World → Prop} (h : Fr M A w W (x :: bl) p) : Fr M A w W bl p :=
  ⟨h.av, h.chg, fun y hy => h.blk y (List.mem_cons_of_mem _ hy), (List.pairwise_cons.1 h.nd).2, Tr.less h.tr (fun _ _ g => g.imp id (fun ⟨y, hy, e⟩ => ⟨y, List.mem_cons_of_mem _ hy, e⟩))⟩
theorem Fr.drewN {M A : Nat → Prop} {w W : World} {bl : List (Nat × Obj)} {p : World → Prop} (h : Fr M A w W bl p) (n : Nat) : Fr M A w (W.drewN n) bl p := h.call (pw_below_drewN (Below.refl _ _) n)
theorem Fr.avs {M A : Nat → Prop} {w W : World} {bl : List (Nat × Obj)} {p : World → Prop} (h : Fr M A w W bl p) : ∀ k, (A k ∨ Of bl k) → k < W.heap.size := by
  rintro k (hk | ⟨x, hx, rfl⟩)
  · exact Nat.lt_of_lt_of_le (h.av k hk) h.chg.size
  · exact obj_lt (h.blk x hx).1
theorem Fr.now {M A : Nat → Prop} {w W : World} {bl : List (Nat × Obj)} {p : World → Prop} (h : Fr M A w W bl p) : p W := Foot.now h.tr
theorem Fr.out {M A : Nat → Prop} {w W : World} {bl : List (Nat × Obj)} {p : World → Prop} (h : Fr M A w W bl p) : Tr A W p := Tr.less h.tr (fun _ _ g => .inl g)
theorem Fr.cell {M A : Nat → Prop} {w W : World} {bl bl' : List (Nat × Obj)} {p : World → Prop} {g : Nat} {t : TypeId} {cs : Array Value} (h : Fr M A w W bl p) (ha : At bl g (.cells cs t (0, 0)) (.cells cs t (0, 0)) bl') (j : Nat) : W.cell? ⟨g, j, none⟩ = cs[j]? := blk_cell (h.blk _ ha.mem).1 j
theorem Fr.frozen {M A : Nat → Prop} {w W : World} {bl bl' : List (Nat × Obj)} {p : World → Prop} {g : Nat} {t : TypeId} {cs : Array Value} (h : Fr M A w W bl p) (ha : At bl g (.cells cs t (0, 0)) (.cells cs t (0, 0)) bl') (j : Nat) : W.frozen? ⟨g, j, none⟩ = false := blk_frozen (h.blk _ ha.mem).1 j
theorem Fr.of {M A : Nat → Prop} {w W : World} {bl bl' : List (Nat × Obj)} {p : World → Prop} {g : Nat} {o : Obj} (h : Fr M A w W bl p) (ha : At bl g o o bl') : W.heap[g]? = some o := (h.blk _ ha.mem).1
theorem Fr.below {A : Nat → Prop} {w W : World} {bl : List (Nat × Obj)} {p : World → Prop} (h : Fr (fun _ => False) A w W bl p) : Below w.heap.size w W := h.chg.below
section
variable {P : Program} {ops : Array Oper} {rest : List Oper} {o : Oper} {a : Act} {Q : Exit → Act → World → Prop} {M A : Nat → Prop} {w W : World} {bl bl' : List (Nat × Obj)} {p : World → Prop}
theorem fr_pure {N : Tmp} (_hd : o.dst = some N) (hgd : o.guard = none) {v : Value} (hrun : ∀ W (K : Result Next → Prop), Hid (K (.ok (.value v) W)) → K ((execOp a.eval o).run P W))
    (h : wpList P ops Q rest (a.put o.dst v) W) : wpList P ops Q (o :: rest) a W := by
  have hr : (execOp a.eval o).run P W = .ok (.value v) W := hrun W (fun r => r = .ok (.value v) W) (Lib.hid rfl)
  refine wpList_plain hgd fun K hK => ?_
  unfold Oper.wp
  rw [hr]
  exact hK _ _ h
theorem fr_new (H : Fr M A w W bl p) {N : Tmp} (hd : o.dst = some N) (hgd : o.guard = none) {cs : Array Value} {t : TypeId}
    (hrun : (execOp a.eval o).run P W = .ok (.value (.pointer (some ⟨W.heap.size, 0, none⟩))) (W.alloc (.cells cs t (0, 0))))
    (h : ∀ g w1, Fr M A w w1 ((g, .cells cs t (0, 0)) :: bl) p → wpList P ops Q rest (a.put o.dst (.pointer (some ⟨g, 0, none⟩))) w1) : wpList P ops Q (o :: rest) a W :=
  box_event hgd hd hrun fun g hg w1 hb hB => h g w1 (H.alloc hg hb hB)
theorem fr_rowv (H : Fr M A w W bl p) {N : Tmp} (hd : o.dst = some N) (hgd : o.guard = none) {n : Nat} {cs : Array Value} {t : TypeId}
    (hrun : ∀ K : Result Next → Prop, Hid (K (.ok (.value (.slice (some ⟨W.heap.size, 0, none⟩) n n)) (W.alloc (.cells cs t (0, 0))))) → K ((execOp a.eval o).run P W))
    (h : ∀ g w1, Fr M A w w1 ((g, .cells cs t (0, 0)) :: bl) p → wpList P ops Q rest (a.put o.dst (.slice (some ⟨g, 0, none⟩) n n)) w1) : wpList P ops Q (o :: rest) a W := by
  have hr := hrun (fun r => r = .ok (.value (.slice (some ⟨W.heap.size, 0, none⟩) n n)) (W.alloc (.cells cs t (0, 0)))) (Lib.hid rfl)
  refine wpList_plain hgd fun K hK => ?_
  unfold Oper.wp
  rw [hr]
  exact hK _ _ (h _ _ (H.alloc rfl (blk_new W (.cells cs t (0, 0))) (below_alloc (Below.refl _ _) _)))
theorem fr_box (H : Fr M A w W bl p) {t : TypeId} {x : Operand} (ho : o.op = .box t x) (hgd : o.guard = none) {cs : Array Value} (hx : a.eval x = .agg cs)
    (h : ∀ g w1, Fr M A w w1 ((g, .cells cs t (0, 0)) :: bl) p → wpList P ops Q rest (a.put o.dst (.pointer (some ⟨g, 0, none⟩))) w1) : wpList P ops Q (o :: rest) a W := by
  refine Kd.event_run hgd ?_ (h _ _ (H.alloc rfl (blk_new W (.cells cs t (0, 0))) (below_alloc (Below.refl _ _) _)))
  simp [execOp, ho, Instr.box, newVar, newRow, newObj, hx]
  rfl
theorem fr_box1 (H : Fr M A w W bl p) {t : TypeId} {x : Operand} (ho : o.op = .box t x) (hgd : o.guard = none) {v : Value} (hx : a.eval x = v) (hv : v.cells = #[v])
    (h : ∀ g w1, Fr M A w w1 ((g, .cells #[v] t (0, 0)) :: bl) p → wpList P ops Q rest (a.put o.dst (.pointer (some ⟨g, 0, none⟩))) w1) : wpList P ops Q (o :: rest) a W := by
  refine Kd.event_run hgd ?_ (h _ _ (H.alloc rfl (blk_new W (.cells #[v] t (0, 0))) (below_alloc (Below.refl _ _) _)))
  simp [execOp, ho, Instr.box, newVar, newRow, newObj, hx, hv]
  rfl
theorem fr_put (H : Fr M A w W bl p) {t : TypeId} {x v : Operand} (ho : o.op = .store t x v) (hN : o.dst = none) (hgd : o.guard = none) {g : Nat} {e : TypeId} {old cs : Array Value}
    (hp : a.eval x = .pointer (some ⟨g, 0, none⟩)) (hv : a.eval v = .agg cs) (ha : At bl g (.cells old e (0, 0)) (.cells cs e (0, 0)) bl') (hs : cs.size = old.size) (ht : (P.info? t).map (·.size) = some cs.size) (h1 : ∀ q ∈ cs.toList, q.oneCell' = true)
    (h : ∀ w1, Fr M A w w1 bl' p → wpList P ops Q rest a w1) : wpList P ops Q (o :: rest) a W := by
  have hg := (H.blk _ ha.mem).1
  refine wpList_plain hgd fun K hK => ?_
  have hr := run_store_run (P := P) (w := W) (g := g) (o := 0) (e := e) (cur := old) t (.agg cs) cs.toList hg rfl (by rw [ht, Array.length_toList]) (by rw [Array.length_toList]; omega) h1
  unfold Oper.wp execOp
  simp only [ho, hp, hv, hr, Sem.run_bind, Sem.run_pure, Result.andThen_ok]
  show K (a.put o.dst undef) _
  rw [hN]
  refine hK _ _ (h _ (H.put ha ?_ ?_ ?_ ?_))
  · obtain ⟨cur', h3, h4, h5⟩ := setCells_row cs.toList 0 W old hg (by rw [Array.length_toList]; omega)
    have h6 : cur' = cs := by
      apply Array.ext'
      rw [h5, List.take_zero, List.nil_append, List.drop_eq_nil_of_le (by rw [Array.length_toList, Array.length_toList]; omega), List.append_nil]
    rw [h3, h6]
  · obtain ⟨s1, s2, s3, s4⟩ := setCells_same g cs.toList 0 W
    exact ⟨s1, s2, s3, by rw [s4]; exact Nat.le_refl _, fun k _ hk => setCells_far _ _ k (fun he => hk (by rw [he]))⟩
  · exact fun k hk => setCells_far _ _ k hk
  · exact (setCells_same g cs.toList 0 W).2.2.2
theorem fr_set (H : Fr M A w W bl p) {t : TypeId} {x v : Operand} (ho : o.op = .store t x v) (hN : o.dst = none) (hgd : o.guard = none) {g j : Nat} {e : TypeId} {old cs : Array Value} {u : Value}
    (hp : a.eval x = .pointer (some ⟨g, j, none⟩)) (hv : a.eval v = u) (ha : At bl g (.cells old e (0, 0)) (.cells cs e (0, 0)) bl') (hs : j + u.cells.size ≤ old.size) (hcs : cs.toList = old.toList.take j ++ u.cells.toList ++ old.toList.drop (j + u.cells.size)) (ht : (P.info? t).map (·.size) = some u.cells.size) (h1 : ∀ q ∈ u.cells.toList, q.oneCell' = true)
    (h : ∀ w1, Fr M A w w1 bl' p → wpList P ops Q rest a w1) : wpList P ops Q (o :: rest) a W := by
  have hg := (H.blk _ ha.mem).1
  refine wpList_plain hgd fun K hK => ?_
  have hr := run_store_run (P := P) (w := W) (g := g) (o := j) (e := e) (cur := old) t u u.cells.toList hg rfl (by rw [ht, Array.length_toList]) (by rw [Array.length_toList]; omega) h1
  unfold Oper.wp execOp
  simp only [ho, hp, hv, hr, Sem.run_bind, Sem.run_pure, Result.andThen_ok]
  show K (a.put o.dst undef) _
  rw [hN]
  refine hK _ _ (h _ (H.put ha ?_ ?_ ?_ ?_))
  · obtain ⟨cur', h3, h4, h5⟩ := setCells_row u.cells.toList j W old hg (by rw [Array.length_toList]; omega)
    have h6 : cur' = cs := by
      apply Array.ext'
      rw [h5, hcs, Array.length_toList]
    rw [h3, h6]
  · obtain ⟨s1, s2, s3, s4⟩ := setCells_same g u.cells.toList j W
    exact ⟨s1, s2, s3, by rw [s4]; exact Nat.le_refl _, fun k _ hk => setCells_far _ _ k (fun he => hk (by rw [he]))⟩
  · exact fun k hk => setCells_far _ _ k hk
  · exact (setCells_same g u.cells.toList j W).2.2.2
theorem fr_load (H : Fr M A w W bl p) {ty : TypeId} {x : Operand} (ho : o.op = .load ty x) (hgd : o.guard = none) {g : Nat} {e : TypeId} {cs : Array Value} {d : TypeDesc}
    (hx : a.eval x = .pointer (some ⟨g, 0, none⟩)) (ha : At bl g (.cells cs e (0, 0)) (.cells cs e (0, 0)) bl') (hu : P.underlying ty = some d) (hd : (match d with | .struct _ | .array _ _ => true | _ => false) = true) (hi : (P.info? ty).map (·.size) = some cs.size)
    (h : wpList P ops Q rest (a.put o.dst (.agg cs)) W) : wpList P ops Q (o :: rest) a W :=
  wpList_load_row hgd ty x ho g hx e cs (0, 0) d (H.blk _ ha.mem).1 hu hd hi h
theorem fr_get (H : Fr M A w W bl p) {ty : TypeId} {x : Operand} (ho : o.op = .load ty x) (hgd : o.guard = none) {g j : Nat} {e : TypeId} {cs : Array Value} {d : TypeDesc} {v : Value}
    (hx : a.eval x = .pointer (some ⟨g, j, none⟩)) (ha : At bl g (.cells cs e (0, 0)) (.cells cs e (0, 0)) bl') (hu : P.underlying ty = some d) (hd : (match d with | .struct _ | .array _ _ => true | _ => false) = false) (hc : cs[j]? = some v)
    (h : wpList P ops Q rest (a.put o.dst v) W) : wpList P ops Q (o :: rest) a W :=
  load_cell ho hgd hx hu hd ((H.cell ha j).trans hc) h
theorem fr_sub (H : Fr M A w W bl p) {ty : TypeId} {x : Operand} (ho : o.op = .load ty x) (hgd : o.guard = none) {g j n : Nat} {e : TypeId} {cs : Array Value} {d : TypeDesc} {vs : List Value}
    (hx : a.eval x = .pointer (some ⟨g, j, none⟩)) (ha : At bl g (.cells cs e (0, 0)) (.cells cs e (0, 0)) bl') (hu : P.underlying ty = some d) (hd : (match d with | .struct _ | .array _ _ => true | _ => false) = true) (hi : (P.info? ty).map (·.size) = some n) (hv : (cs.toList.drop j).take n = vs) (hn : n = vs.length)
    (h : wpList P ops Q rest (a.put o.dst (.agg vs.toArray)) W) : wpList P ops Q (o :: rest) a W := by
  refine load_cells ho hgd hx hu hd (hn ▸ hi) (fun i u hu => ?_) h
  have hi : i < n := by rw [hn]; exact (List.getElem?_eq_some_iff.1 hu).1
  rw [← hv, List.getElem?_take, if_pos hi, List.getElem?_drop] at hu
  have hc := H.cell ha (j + i)
  rw [show ((⟨g, j, none⟩ : Addr).add i) = ⟨g, j + i, none⟩ by
    unfold Addr.add
    split
    · rename_i h0; rw [h0]; rfl
    · rfl, hc]
  simpa using hu
end
section
variable {P : Program} {ops : Array Oper} {rest : List Oper} {o : Oper} {a : Act} {Q : Act → Prop} {M A : Nat → Prop} {w : World} {bl bl' : List (Nat × Obj)} {p : World → Prop}
def Frs (M A : Nat → Prop) (w : World) (bl : List (Nat × Obj)) (p : World → Prop) : World → Prop := fun W => Fr M A w W bl p
end
end Go.Proofs.YtdaohldmojpihaaGreatDoorEm

namespace Go.Proofs.YtdaohldmojpihaaGreatDoorKr
open Go.RowKit Go.Proofs.YtdaohldmojpihaaGreatDoorW.PrintWords Go.Proofs.YtdaohldmojpihaaGreatDoorW.PrintLast Go.Proofs.YtdaohldmojpihaaGreatDoorW.PrintMore
set_option linter.unusedVariables false
inductive Shp where
  | ptr
  | sl (n c : Nat)
def Shp.val : Shp → Nat → Value
  | .ptr, x => .pointer (some ⟨x, 0, none⟩)
  | .sl n c, x => .slice (some ⟨x, 0, none⟩) n c
theorem Shp.val_inj {s s' : Shp} {x : Nat} (h : s.val x = s'.val x) : s = s' := by
  cases s <;> cases s' <;> simp [Shp.val] at h ⊢
  exact h
structure Facts where
  fro : List (Nat × Nat × Obj)
  var : List (Nat × Nat × TypeId × Array Value)
  log : List (Nat × Nat × Nat)
def setR (j : Nat) (us : List Value) (cs : Array Value) : Array Value := cs.mapIdx fun i v => if j ≤ i ∧ i < j + us.length then us.getD (i - j) v else v
theorem setR_size (j : Nat) (us : List Value) (cs : Array Value) : (setR j us cs).size = cs.size := by simp [setR]
def apartR (a b : Nat × Nat × Nat) : Prop := a.1 = b.1 → a.2.1 + a.2.2 ≤ b.2.1 ∨ b.2.1 + b.2.2 ≤ a.2.1
theorem apartR.symm {a b : Nat × Nat × Nat} (h : apartR a b) : apartR b a := fun e => (h e.symm).symm
theorem setR_comm {j j' : Nat} {us us' : List Value} (h : j + us.length ≤ j' ∨ j' + us'.length ≤ j) (cs : Array Value) : setR j us (setR j' us' cs) = setR j' us' (setR j us cs) := by
  unfold setR
  apply Array.ext_getElem?
  intro i
  simp only [Array.getElem?_mapIdx, Option.map_map]
  congr 1
  funext v
  simp only [Function.comp]
  by_cases h1 : j ≤ i ∧ i < j + us.length
  · have h2 : ¬ (j' ≤ i ∧ i < j' + us'.length) := by omega
    rw [if_pos h1, if_neg h2, if_neg h2, if_pos h1]
  · rw [if_neg h1, if_neg h1]
def upd (g j : Nat) (us : List Value) (l : List (Nat × Nat × TypeId × Array Value)) : List (Nat × Nat × TypeId × Array Value) := l.map fun e => if e.2.1 = g then (e.1, e.2.1, e.2.2.1, setR j us e.2.2.2) else e
theorem upd_comm {g g' j j' : Nat} {us us' : List Value} (h : g = g' → j + us.length ≤ j' ∨ j' + us'.length ≤ j) (l : List (Nat × Nat × TypeId × Array Value)) : upd g j us (upd g' j' us' l) = upd g' j' us' (upd g j us l) := by
  unfold upd
  rw [List.map_map, List.map_map]
  refine List.map_congr_left fun e _ => ?_
  simp only [Function.comp]
  by_cases h1 : e.2.1 = g'
  · by_cases h2 : e.2.1 = g
    · have e1 : g = g' := h2.symm.trans h1
      rw [if_pos h1, if_pos h2]
      try dsimp only
      rw [if_pos h2, if_pos h1, setR_comm (h e1)]
    · rw [if_pos h1, if_neg h2]
      try dsimp only
      rw [if_neg h2, if_pos h1]
  · by_cases h2 : e.2.1 = g
    · rw [if_neg h1, if_pos h2]
      try dsimp only
      rw [if_neg h1]
    · rw [if_neg h1, if_neg h2, if_neg h1]
theorem upd_mem {g j : Nat} {us : List Value} {l : List (Nat × Nat × TypeId × Array Value)} {e : Nat × Nat × TypeId × Array Value} (h : e ∈ upd g j us l) : ∃ e0, e0 ∈ l ∧ e0.1 = e.1 ∧ e0.2.1 = e.2.1 ∧ e0.2.2.1 = e.2.2.1 ∧ e0.2.2.2.size = e.2.2.2.size ∧ (e.2.1 = g → e.2.2.2 = setR j us e0.2.2.2) ∧ (e.2.1 ≠ g → e = e0) := by
  unfold upd at h
  obtain ⟨e0, h0, rfl⟩ := List.mem_map.1 h
  by_cases hg : e0.2.1 = g
  · refine ⟨e0, h0, ?_⟩
    rw [if_pos hg]
    exact ⟨rfl, rfl, rfl, (setR_size _ _ _).symm, fun _ => rfl, fun hn => absurd hg hn⟩
  · refine ⟨e0, h0, ?_⟩
    rw [if_neg hg]
    exact ⟨rfl, rfl, rfl, rfl, fun hn => absurd hn hg, fun _ => rfl⟩
theorem mem_upd {g j : Nat} {us : List Value} {l : List (Nat × Nat × TypeId × Array Value)} {e : Nat × Nat × TypeId × Array Value} (h : e ∈ l) : ∃ e1, e1 ∈ upd g j us l ∧ e1.1 = e.1 ∧ e1.2.1 = e.2.1 ∧ e1.2.2.1 = e.2.2.1 ∧ e1.2.2.2.size = e.2.2.2.size := by
  refine ⟨_, List.mem_map.2 ⟨e, h, rfl⟩, ?_⟩
  by_cases hg : e.2.1 = g
  · rw [if_pos hg]; exact ⟨rfl, rfl, rfl, setR_size _ _ _⟩
  · rw [if_neg hg]; exact ⟨rfl, rfl, rfl, rfl⟩
theorem upd_blocks (g j : Nat) (us : List Value) (l : List (Nat × Nat × TypeId × Array Value)) : (upd g j us l).map (·.2.1) = l.map (·.2.1) := by
  unfold upd
  rw [List.map_map]
  refine List.map_congr_left fun e _ => ?_
  simp only [Function.comp]
  split <;> rfl
def depB (ops : Array Oper) (k j : Nat) : Bool := ((ops[k]?).map fun o => o.after.any fun e => Region.binds .any e && e.on == j).getD false
def depV (ops : Array Oper) (k j : Nat) : Bool := depB ops k j || j == ops.size
def shp (W : World) (e : Nat × Nat × TypeId × Array Value) : Prop := ∃ cur, W.heap[e.2.1]? = some (.cells cur e.2.2.1 (0, 0)) ∧ cur.size = e.2.2.2.size
def holdsS (F : Facts) (W : World) : Prop := (∀ p, p ∈ F.fro → W.heap[p.2.1]? = some p.2.2) ∧ ∀ e, e ∈ F.var → shp W e
def holds (F : Facts) (W : World) : Prop := (∀ p, p ∈ F.fro → W.heap[p.2.1]? = some p.2.2) ∧ ∀ e, e ∈ F.var → W.heap[e.2.1]? = some (.cells e.2.2.2 e.2.2.1 (0, 0))
theorem holds.s {F : Facts} {W : World} (h : holds F W) : holdsS F W := ⟨h.1, fun e he => ⟨_, h.2 e he, rfl⟩⟩
def depH (ops : Array Oper) (k : Nat) (F : Facts) (W : World) : Prop := (∀ p, p ∈ F.fro → depB ops k p.1 = true → W.heap[p.2.1]? = some p.2.2) ∧ ∀ e, e ∈ F.var → depV ops k e.1 = true → shp W e
def Sep (F : Facts) : Prop := (∀ p, p ∈ F.fro → ∀ e, e ∈ F.var → p.2.1 ≠ e.2.1) ∧ (F.var.map (·.2.1)).Nodup
inductive Res where
  | val (v : Value)
  | new (s : Shp) (ob : Obj)
  | newv (t : TypeId) (cs : Array Value)
  | put (g j : Nat) (us : List Value)
def Res.out : Res → Nat → Value
  | .val v, _ => v
  | .new s _, x => s.val x
  | .newv _ _, x => .pointer (some ⟨x, 0, none⟩)
  | .put _ _ _, _ => undef
def Res.facts : Res → Nat → Nat → Facts → Facts
  | .val _, _, _, F => F
  | .new _ ob, k, x, F => { F with fro := (k, x, ob) :: F.fro }
  | .newv t cs, k, x, F => { F with var := (k, x, t, cs) :: F.var }
  | .put g j us, _, _, F => { F with var := upd g j us F.var, log := (g, j, us.length) :: F.log }
def Res.ok (ops : Array Oper) (k : Nat) (F : Facts) : Res → Prop
  | .put g j us => (∃ e, e ∈ F.var ∧ e.2.1 = g ∧ depV ops k e.1 = true ∧ j + us.length ≤ e.2.2.2.size) ∧ ∀ q, q ∈ F.log → apartR q (g, j, us.length)
  | _ => True
def kindO (o : Oper) : Nat := match o.op with | .store .. => 1 | .alloc .. => 2 | .box .. => 2 | _ => 0
def dUpon (P : Program) (W : World) (v : Value) : Result Next → Prop
  | .ok (.value u) w' => w' = W ∧ u = v
  | .ok .skip w' => w' = W ∧ v = undef
  | .ok (.enter f args) w' => w' = W ∧ P.inits.idxOf? f = none ∧ Calls P f args W (fun e w'' => e = .returned v ∧ Below W.heap.size W w'')
  | _ => False
def pUpon (W1 : World) : Result Next → Prop
  | .ok (.value u) w' => w' = W1 ∧ u = undef
  | .ok .skip w' => w' = W1
  | _ => False
def Res.yields (P : Program) (o : Oper) (a : Act) (W : World) : Res → Prop
  | .val v => kindO o ≠ 1 ∧ dUpon P W v ((execOp a.eval o).run P W)
  | .new s ob => kindO o = 0 ∧ (execOp a.eval o).run P W = .ok (.value (s.val W.heap.size)) (W.alloc ob)
  | .newv t cs => kindO o = 2 ∧ (execOp a.eval o).run P W = .ok (.value (.pointer (some ⟨W.heap.size, 0, none⟩))) (W.alloc (.cells cs t (0, 0)))
  | .put g j us => (∃ t x v, o.op = .store t x v ∧ a.eval x = .pointer (some ⟨g, j, none⟩) ∧ (a.eval v).cells.toList = us) ∧ pUpon (W.setCells g j us) ((execOp a.eval o).run P W)
theorem returned_agree {P : Program} {f : FuncId} {args : Array Value} {w : World} {v v' : Value} {R R' : World → Prop}
    (h : Calls P f args w fun e w' => e = .returned v ∧ R w') (h' : Calls P f args w fun e w' => e = .returned v' ∧ R' w') (hi : P.inits.idxOf? f = none) : v = v' := by
  obtain ⟨n, u, w1, e1, r1⟩ := Calls.done (R := fun u _ => u = v) (h.mono fun e w' ⟨he, _⟩ => by subst he; rfl) hi
  obtain ⟨m, u', w2, e2, r2⟩ := Calls.done (R := fun u _ => u = v') (h'.mono fun e w' ⟨he, _⟩ => by subst he; rfl) hi
  have e3 := runN_same_end e1 e2
  injection e3 with e4
  rw [← r1, ← r2, e4]
theorem alloc_ne (W : World) (ob : Obj) : W.alloc ob ≠ W := fun e => by
  have e2 := congrArg (fun w => w.heap.size) e
  simp at e2
theorem kind_store {o : Oper} {t : TypeId} {x v : Operand} (h : o.op = .store t x v) : kindO o = 1 := by unfold kindO; rw [h]
theorem Res.det {P : Program} {o : Oper} {a : Act} {W : World} {r r' : Res} (h : r.yields P o a W) (h' : r'.yields P o a W) : r = r' := by
  cases r with
  | val v =>
    obtain ⟨hk, h⟩ := h
    cases r' with
    | val v' =>
      obtain ⟨_, h'⟩ := h'
      generalize (execOp a.eval o).run P W = q at h h'
      cases q with
      | ok n w' =>
        cases n <;> simp only [dUpon] at h h'
        case value u => rw [← h.2, ← h'.2]
        case skip => rw [h.2, h'.2]
        case enter f args => rw [returned_agree h.2.2 h'.2.2 h.2.1]
      | halt x w' => simp only [dUpon] at h
    | new s ob =>
      obtain ⟨_, h'⟩ := h'
      rw [h'] at h
      exact absurd h.1 (alloc_ne W ob)
    | newv t cs =>
      obtain ⟨_, h'⟩ := h'
      rw [h'] at h
      exact absurd h.1 (alloc_ne W _)
    | put g j us =>
      obtain ⟨⟨t, x, v, e, _⟩, _⟩ := h'
      exact absurd (kind_store e) hk
  | new s ob =>
    obtain ⟨hk, h⟩ := h
    cases r' with
    | val v' =>
      obtain ⟨_, h'⟩ := h'
      rw [h] at h'
      exact absurd h'.1 (alloc_ne W ob)
    | new s' ob' =>
      obtain ⟨_, h'⟩ := h'
      rw [h] at h'
      injection h' with e1 e2
      injection e1 with e1
      have e3 := Shp.val_inj e1
      have e4 : W.heap.push ob = W.heap.push ob' := congrArg World.heap e2
      have e5 := (Array.push_eq_push.1 e4).1
      rw [e3, e5]
    | newv t cs => rw [h'.1] at hk; cases hk
    | put g j us =>
      obtain ⟨⟨t, x, v, e, _⟩, _⟩ := h'
      rw [kind_store e] at hk
      cases hk
  | newv t cs =>
    obtain ⟨hk, h⟩ := h
    cases r' with
    | val v' =>
      obtain ⟨_, h'⟩ := h'
      rw [h] at h'
      exact absurd h'.1 (alloc_ne W _)
    | new s' ob' => rw [h'.1] at hk; cases hk
    | newv t' cs' =>
      obtain ⟨_, h'⟩ := h'
      rw [h] at h'
      injection h' with e1 e2
      have e4 : W.heap.push (Obj.cells cs t (0, 0)) = W.heap.push (Obj.cells cs' t' (0, 0)) := congrArg World.heap e2
      have e5 := (Array.push_eq_push.1 e4).1
      injection e5 with e6 e7
      rw [e6, e7]
    | put g j us =>
      obtain ⟨⟨t, x, v, e, _⟩, _⟩ := h'
      rw [kind_store e] at hk
      cases hk
  | put g j us =>
    obtain ⟨⟨t, x, v, e, ex, ev⟩, _⟩ := h
    cases r' with
    | val v' => exact absurd (kind_store e) h'.1
    | new s' ob' => have h2 := h'.1; rw [kind_store e] at h2; cases h2
    | newv t' cs' => have h2 := h'.1; rw [kind_store e] at h2; cases h2
    | put g' j' us' =>
      obtain ⟨⟨t', x', v', e', ex', ev'⟩, _⟩ := h'
      rw [e] at e'
      injection e' with _ e1 e2
      subst e1 e2
      rw [ex] at ex'
      injection ex' with ex'
      injection ex' with ex'
      injection ex' with e1 e2
      rw [e1, e2, ← ev, ev']
section
variable {P : Program} {ops : Array Oper} {C : World → Prop} {V : Nat → Prop} {Q : Act → Facts → Prop}
def Real (C : World → Prop) (F : Facts) : Prop := Sep F ∧ ∃ W, C W ∧ holdsS F W
def Yields (P : Program) (ops : Array Oper) (C : World → Prop) (k : Nat) (o : Oper) (r : Res) (a : Act) (F : Facts) : Prop :=
  (Region.wanted o (yielded ops a.tmps) = true ∧ r.ok ops k F ∧ ∀ W, C W → depH ops k F W → r.yields P o a W) ∨ (Region.wanted o (yielded ops a.tmps) = false ∧ r = .val undef)
def stepO (P : Program) (ops : Array Oper) (C : World → Prop) (i : Nat) (K : Act → Facts → Prop) (a : Act) (F : Facts) : Prop :=
  match ops[i]? with
  | none => K a F
  | some o => ∃ r, Yields P ops C i o r a F ∧ ∀ x, Real C (r.facts i x F) → K (a.put o.dst (r.out x)) (r.facts i x F)
def wpAnyO (P : Program) (ops : Array Oper) (C : World → Prop) (Q : Act → Facts → Prop) : Nat → Array Bool → Act → Facts → Prop
  | 0, listed, a, F => Region.ready .any ops listed = [] ∧ Q a F
  | fuel + 1, listed, a, F => (Region.ready .any ops listed = [] → Q a F) ∧ ∀ i ∈ Region.ready .any ops listed, stepO P ops C i (wpAnyO P ops C Q fuel (listed.setIfInBounds i true)) a F
def wpO (P : Program) (ops : Array Oper) (C : World → Prop) (Q : Act → Facts → Prop) : Nat → List Oper → Act → Facts → Prop
  | _, [], a, F => Q a F
  | k, o :: rest, a, F => ∃ r, Yields P ops C k o r a F ∧ ∀ x, Real C (r.facts k x F) → wpO P ops C Q (k + 1) rest (a.put o.dst (r.out x)) (r.facts k x F)
structure Same (F G : Facts) : Prop where
  fro : ∀ p, p ∈ F.fro ↔ p ∈ G.fro
  var : F.var.Perm G.var
  log : ∀ p, p ∈ F.log ↔ p ∈ G.log
theorem Same.refl (F : Facts) : Same F F := ⟨fun _ => Iff.rfl, List.Perm.refl _, fun _ => Iff.rfl⟩
theorem Same.symm {F G : Facts} (h : Same F G) : Same G F := ⟨fun p => (h.fro p).symm, h.var.symm, fun p => (h.log p).symm⟩
theorem Same.facts {F G : Facts} (h : Same F G) (r : Res) (k x : Nat) : Same (r.facts k x F) (r.facts k x G) := by
  cases r with
  | val v => exact h
  | new s ob => exact ⟨fun p => by simp only [Res.facts, List.mem_cons, h.fro], h.var, h.log⟩
  | newv t cs => exact ⟨h.fro, h.var.cons _, h.log⟩
  | put g j us => exact ⟨h.fro, h.var.map _, fun p => by simp only [Res.facts, List.mem_cons, h.log]⟩
theorem Same.sep {F G : Facts} (h : Same F G) (g : Sep F) : Sep G := ⟨fun p hp e he => g.1 p ((h.fro p).2 hp) e (h.var.mem_iff.2 he), (h.var.map _).nodup_iff.1 g.2⟩
theorem Same.holdsS {F G : Facts} {W : World} (h : Same F G) (g : holdsS F W) : holdsS G W := ⟨fun p hp => g.1 p ((h.fro p).2 hp), fun e he => g.2 e (h.var.mem_iff.2 he)⟩
theorem Same.holds {F G : Facts} {W : World} (h : Same F G) (g : holds F W) : holds G W := ⟨fun p hp => g.1 p ((h.fro p).2 hp), fun e he => g.2 e (h.var.mem_iff.2 he)⟩
theorem Same.depH {F G : Facts} {W : World} {k : Nat} (h : Same F G) (g : depH ops k F W) : depH ops k G W := ⟨fun p hp => g.1 p ((h.fro p).2 hp), fun e he => g.2 e (h.var.mem_iff.2 he)⟩
theorem Same.ok {F G : Facts} {k : Nat} {r : Res} (h : Same F G) (g : r.ok ops k F) : r.ok ops k G := by
  cases r with
  | put b j us => exact ⟨g.1.imp fun e ⟨h1, h2⟩ => ⟨h.var.mem_iff.1 h1, h2⟩, fun q hq => g.2 q ((h.log q).2 hq)⟩
  | _ => exact g
theorem Same.real {F G : Facts} (h : Same F G) (g : Real C F) : Real C G := ⟨h.sep g.1, g.2.imp fun _ ⟨h1, h2⟩ => ⟨h1, h.holdsS h2⟩⟩
theorem facts_swap {k k' x x' : Nat} {r r' : Res} {F : Facts} (hs : Sep (r.facts k x (r'.facts k' x' F))) (ho : r.ok ops k F) (ho' : r'.ok ops k' F) (ha : ∀ g j us g' j' us', r = .put g j us → r' = .put g' j' us' → apartR (g, j, us.length) (g', j', us'.length)) : Same (r.facts k x (r'.facts k' x' F)) (r'.facts k' x' (r.facts k x F)) := by
  cases r with
  | val v => exact Same.refl _
  | new s ob =>
    cases r' with
    | val v' => exact Same.refl _
    | new s' ob' => exact ⟨fun p => by simp only [Res.facts, List.mem_cons]; exact or_left_comm, List.Perm.refl _, fun _ => Iff.rfl⟩
    | newv t' cs' => exact Same.refl _
    | put g' j' us' => exact Same.refl _
  | newv t cs =>
    cases r' with
    | val v' => exact Same.refl _
    | new s' ob' => exact Same.refl _
    | newv t' cs' => exact ⟨fun _ => Iff.rfl, List.Perm.swap _ _ _, fun _ => Iff.rfl⟩
    | put g' j' us' =>
      obtain ⟨e, he, hg, _⟩ := ho'.1
      have hx : x ≠ g' := fun q => by
        have h1 := hs.2
        simp only [Res.facts, List.map_cons, List.nodup_cons] at h1
        refine h1.1 ?_
        rw [upd_blocks, q, ← hg]
        exact List.mem_map.2 ⟨e, he, rfl⟩
      refine ⟨fun _ => Iff.rfl, ?_, fun _ => Iff.rfl⟩
      simp only [Res.facts, upd, List.map_cons]
      rw [if_neg hx]
  | put g j us =>
    cases r' with
    | val v' => exact Same.refl _
    | new s' ob' => exact Same.refl _
    | newv t' cs' =>
      obtain ⟨e, he, hg, _⟩ := ho.1
      have hx : x' ≠ g := fun q => by
        have h1 := hs.2
        simp only [Res.facts] at h1
        rw [upd_blocks] at h1
        simp only [List.map_cons, List.nodup_cons] at h1
        refine h1.1 ?_
        rw [q, ← hg]
        exact List.mem_map.2 ⟨e, he, rfl⟩
      refine ⟨fun _ => Iff.rfl, ?_, fun _ => Iff.rfl⟩
      simp only [Res.facts, upd, List.map_cons]
      rw [if_neg hx]
    | put g' j' us' =>
      refine ⟨fun _ => Iff.rfl, ?_, fun p => by simp only [Res.facts, List.mem_cons]; exact or_left_comm⟩
      simp only [Res.facts]
      rw [upd_comm (fun e => ha g j us g' j' us' rfl rfl e)]
theorem holdsS_less {r : Res} {k x : Nat} {F : Facts} {W : World} (h : holdsS (r.facts k x F) W) : holdsS F W := by
  cases r with
  | val v => exact h
  | new s ob => exact ⟨fun p hp => h.1 p (List.mem_cons_of_mem _ hp), h.2⟩
  | newv t cs => exact ⟨h.1, fun e he => h.2 e (List.mem_cons_of_mem _ he)⟩
  | put g j us =>
    refine ⟨h.1, fun e he => ?_⟩
    obtain ⟨e1, h1, _, h2, h3, h4⟩ := mem_upd (g := g) (j := j) (us := us) he
    obtain ⟨cur, h5, h6⟩ := h.2 e1 h1
    exact ⟨cur, by rw [← h2, ← h3]; exact h5, by rw [← h4]; exact h6⟩
theorem depH_less {r : Res} {k i x : Nat} {F : Facts} {W : World} (h : depH ops k (r.facts i x F) W) : depH ops k F W := by
  cases r with
  | val v => exact h
  | new s ob => exact ⟨fun p hp => h.1 p (List.mem_cons_of_mem _ hp), h.2⟩
  | newv t cs => exact ⟨h.1, fun e he => h.2 e (List.mem_cons_of_mem _ he)⟩
  | put g j us =>
    refine ⟨h.1, fun e he hd => ?_⟩
    obtain ⟨e1, h1, h0, h2, h3, h4⟩ := mem_upd (g := g) (j := j) (us := us) he
    obtain ⟨cur, h5, h6⟩ := h.2 e1 h1 (by rw [h0]; exact hd)
    exact ⟨cur, by rw [← h2, ← h3]; exact h5, by rw [← h4]; exact h6⟩
theorem depH_more {r : Res} {k i x : Nat} {F : Facts} {W : World} (hn : depV ops k i = false) (h : depH ops k F W) : depH ops k (r.facts i x F) W := by
  have hn2 : depB ops k i = false := by unfold depV at hn; simp at hn; exact hn.1
  cases r with
  | val v => exact h
  | new s ob =>
    refine ⟨fun p hp hd => ?_, h.2⟩
    rcases List.mem_cons.1 hp with rfl | hp
    · rw [hn2] at hd; cases hd
    · exact h.1 p hp hd
  | newv t cs =>
    refine ⟨h.1, fun e he hd => ?_⟩
    rcases List.mem_cons.1 he with rfl | he
    · rw [hn] at hd; cases hd
    · exact h.2 e he hd
  | put g j us =>
    refine ⟨h.1, fun e he hd => ?_⟩
    obtain ⟨e0, h1, h0, h2, h3, h4, _⟩ := upd_mem he
    obtain ⟨cur, h5, h6⟩ := h.2 e0 h1 (by rw [h0]; exact hd)
    exact ⟨cur, by rw [← h2, ← h3]; exact h5, by rw [← h4]; exact h6⟩
theorem depH_of_holds {k : Nat} {F : Facts} {W : World} (h : holdsS F W) : depH ops k F W := ⟨fun p hp _ => h.1 p hp, fun e he _ => h.2 e he⟩
theorem ok_less {r ri : Res} {k i x : Nat} {F : Facts} (hn : depV ops k i = false) (h : r.ok ops k (ri.facts i x F)) : r.ok ops k F := by
  cases r with
  | put g j us =>
    cases ri with
    | val v => exact h
    | new s ob => exact h
    | newv t cs =>
      obtain ⟨⟨e, he, h1, h2, h3⟩, h4⟩ := h
      refine ⟨⟨e, ?_, h1, h2, h3⟩, h4⟩
      rcases List.mem_cons.1 he with rfl | he
      · rw [hn] at h2; cases h2
      · exact he
    | put g' j' us' =>
      obtain ⟨⟨e, he, h1, h2, h3⟩, h4⟩ := h
      obtain ⟨e0, q1, q0, q2, _, q4, _⟩ := upd_mem he
      exact ⟨⟨e0, q1, q2.trans h1, by rw [q0]; exact h2, by rw [q4]; exact h3⟩, fun q hq => h4 q (List.mem_cons_of_mem _ hq)⟩
  | _ => exact h
theorem ok_more {r rj : Res} {k j x : Nat} {F : Facts} (h : r.ok ops k F) (ha : ∀ g j us g' j' us', r = .put g j us → rj = .put g' j' us' → apartR (g', j', us'.length) (g, j, us.length)) : r.ok ops k (rj.facts j x F) := by
  cases r with
  | put g b us =>
    cases rj with
    | val v => exact h
    | new s ob => exact h
    | newv t cs => exact ⟨h.1.imp fun e ⟨h1, h2⟩ => ⟨List.mem_cons_of_mem _ h1, h2⟩, h.2⟩
    | put g' j' us' =>
      obtain ⟨⟨e, he, h1, h2, h3⟩, h4⟩ := h
      obtain ⟨e1, q1, q0, q2, _, q4⟩ := mem_upd (g := g') (j := j') (us := us') he
      refine ⟨⟨e1, q1, q2.trans h1, by rw [q0]; exact h2, by rw [q4]; exact h3⟩, fun q hq => ?_⟩
      rcases List.mem_cons.1 hq with rfl | hq
      · exact ha g b us g' j' us' rfl rfl
      · exact h4 q hq
  | _ => exact h
theorem sep_less {r : Res} {k x : Nat} {F : Facts} (h : Sep (r.facts k x F)) : Sep F := by
  cases r with
  | val v => exact h
  | new s ob => exact ⟨fun p hp => h.1 p (List.mem_cons_of_mem _ hp), h.2⟩
  | newv t cs =>
    refine ⟨fun p hp e he => h.1 p hp e (List.mem_cons_of_mem _ he), ?_⟩
    have := h.2
    simp only [Res.facts, List.map_cons, List.nodup_cons] at this
    exact this.2
  | put g j us =>
    refine ⟨fun p hp e he => ?_, ?_⟩
    · obtain ⟨e1, h1, _, h2, _⟩ := mem_upd (g := g) (j := j) (us := us) he
      rw [← h2]; exact h.1 p hp e1 h1
    · have := h.2
      simp only [Res.facts] at this
      rwa [upd_blocks] at this
theorem Real.less {r : Res} {k x : Nat} {F : Facts} (g : Real C (r.facts k x F)) : Real C F := ⟨sep_less g.1, g.2.imp fun _ ⟨h1, h2⟩ => ⟨h1, holdsS_less h2⟩⟩
theorem obj_lt {w : World} {k : Nat} {o : Obj} (h : w.heap[k]? = some o) : k < w.heap.size := by
  rcases Nat.lt_or_ge k w.heap.size with g | g
  · exact g
  · simp [Array.getElem?_eq_none g] at h
theorem holds_below {F : Facts} {W W' : World} (h : holds F W) (hb : Below W.heap.size W W') : holds F W' := ⟨fun p hp => (hb.block _ (obj_lt (h.1 p hp))).trans (h.1 p hp), fun e he => (hb.block _ (obj_lt (h.2 e he))).trans (h.2 e he)⟩
theorem holdsS_below {F : Facts} {W W' : World} (h : holdsS F W) (hb : Below W.heap.size W W') : holdsS F W' :=
  ⟨fun p hp => (hb.block _ (obj_lt (h.1 p hp))).trans (h.1 p hp), fun e he => by obtain ⟨cur, h1, h2⟩ := h.2 e he; exact ⟨cur, (hb.block _ (obj_lt h1)).trans h1, h2⟩⟩
structure UpC (C : World → Prop) (V : Nat → Prop) : Prop where
  up : ∀ W W', C W → Below W.heap.size W W' → C W'
  put : ∀ W g j us cur t, C W → V g → W.heap[g]? = some (.cells cur t (0, 0)) → C (W.setCells g j us)
  fresh : ∀ W, C W → V W.heap.size
theorem real_ex (hC : UpC C V) {k : Nat} {o : Oper} {r : Res} {a : Act} {F : Facts} (hy : Yields P ops C k o r a F) (h : Real C F) : ∃ x, Real C (r.facts k x F) := by
  obtain ⟨hs, W, h1, h2⟩ := h
  cases r with
  | val v => exact ⟨0, hs, W, h1, h2⟩
  | new s ob =>
    have hB : Below W.heap.size W (W.alloc ob) := below_alloc (Below.refl _ _) _
    refine ⟨W.heap.size, ⟨fun p hp e he => ?_, hs.2⟩, W.alloc ob, hC.up _ _ h1 hB, fun p hp => ?_, (holdsS_below h2 hB).2⟩
    · rcases List.mem_cons.1 hp with rfl | hp
      · obtain ⟨cur, q, _⟩ := h2.2 e he
        have := obj_lt q
        intro e'
        have e' : W.heap.size = e.2.1 := e'
        omega
      · exact hs.1 p hp e he
    · rcases List.mem_cons.1 hp with rfl | hp
      · exact blk_new W ob
      · exact (holdsS_below h2 hB).1 p hp
  | newv t cs =>
    have hB : Below W.heap.size W (W.alloc (.cells cs t (0, 0))) := below_alloc (Below.refl _ _) _
    refine ⟨W.heap.size, ⟨fun p hp e he => ?_, ?_⟩, W.alloc (.cells cs t (0, 0)), hC.up _ _ h1 hB, (holdsS_below h2 hB).1, fun e he => ?_⟩
    · rcases List.mem_cons.1 he with rfl | he
      · have := obj_lt (h2.1 p hp)
        intro e'
        have e' : p.2.1 = W.heap.size := e'
        omega
      · exact hs.1 p hp e he
    · simp only [Res.facts, List.map_cons, List.nodup_cons]
      refine ⟨fun hm => ?_, hs.2⟩
      obtain ⟨e, he, q⟩ := List.mem_map.1 hm
      obtain ⟨cur, q1, _⟩ := h2.2 e he
      have := obj_lt q1
      omega
    · rcases List.mem_cons.1 he with rfl | he
      · exact ⟨cs, blk_new W _, rfl⟩
      · exact (holdsS_below h2 hB).2 e he
  | put g j us =>
    refine ⟨0, ⟨fun p hp e he => ?_, ?_⟩, W, h1, h2.1, fun e he => ?_⟩
    · obtain ⟨e0, q1, _, q2, _⟩ := upd_mem he
      rw [← q2]
      exact hs.1 p hp e0 q1
    · simp only [Res.facts]
      rw [upd_blocks]
      exact hs.2
    · obtain ⟨e0, q1, _, q2, q3, q4, _⟩ := upd_mem he
      obtain ⟨cur, q5, q6⟩ := h2.2 e0 q1
      exact ⟨cur, by rw [← q2, ← q3]; exact q5, by rw [← q4]; exact q6⟩
theorem stepO_perm {i : Nat} {K : Act → Facts → Prop} {a : Act} {F G : Facts} (hK : ∀ a F G, Same F G → K a F → K a G) (h : Same F G) (hh : stepO P ops C i K a F) : stepO P ops C i K a G := by
  unfold stepO at *
  split at hh
  · exact hK _ _ _ h hh
  · obtain ⟨r, h1, h2⟩ := hh
    refine ⟨r, ?_, fun x hx => ?_⟩
    · rcases h1 with ⟨hw, ho, h1⟩ | h1
      · exact .inl ⟨hw, h.ok ho, fun W hc hd => h1 W hc (h.symm.depH hd)⟩
      · exact .inr h1
    · exact hK _ _ _ (h.facts r i x) (h2 x ((h.facts r i x).symm.real hx))
theorem wpAnyO_perm (hQ : ∀ a F G, Same F G → Q a F → Q a G) : ∀ (fuel : Nat) (listed : Array Bool) (a : Act) (F G : Facts), Same F G → wpAnyO P ops C Q fuel listed a F → wpAnyO P ops C Q fuel listed a G
  | 0, _, _, _, _, h, hh => ⟨hh.1, hQ _ _ _ h hh.2⟩
  | fuel + 1, _, _, _, _, h, hh => ⟨fun h0 => hQ _ _ _ h (hh.1 h0), fun i hi => stepO_perm (fun a F G => wpAnyO_perm hQ fuel _ a F G) h (hh.2 i hi)⟩
theorem yields_same {o : Oper} {r : Res} {a a' : Act} {W : World} (hs : ∀ cs b, o.op ≠ .select cs b) (he : execOp a'.eval o = execOp a.eval o) (hx : ∀ x ∈ o.op.operands, a'.eval x = a.eval x) (h : r.yields P o a W) : r.yields P o a' W := by
  cases r with
  | val v => exact ⟨h.1, by rw [he]; exact h.2⟩
  | new s ob => exact ⟨h.1, by rw [he]; exact h.2⟩
  | newv t cs => exact ⟨h.1, by rw [he]; exact h.2⟩
  | put g j us =>
    obtain ⟨⟨t, x, v, e, ex, ev⟩, h2⟩ := h
    exact ⟨⟨t, x, v, e, by rw [hx x (by rw [e]; simp [Op.operands])]; exact ex, by rw [hx v (by rw [e]; simp [Op.operands])]; exact ev⟩, by rw [he]; exact h2⟩
theorem eval_put {o : Oper} {a : Act} {dst : Option Tmp} {v : Value} (h : ∀ d, dst = some d → d ∉ o.looksAt ops) : ∀ x ∈ o.op.operands, (a.put dst v).eval x = a.eval x := fun x hx =>
  Act.eval_put fun d hd hxd => h d hd (by
    subst hxd
    exact List.mem_append_left _ (List.mem_filterMap.2 ⟨.tmp d, by simpa using hx, rfl⟩))
theorem Yields.of_same {k : Nat} {o : Oper} {r : Res} {a a' : Act} {F G : Facts} (hs : ∀ cs b, o.op ≠ .select cs b) (hy : Yields P ops C k o r a F) (he : execOp a'.eval o = execOp a.eval o) (hx : ∀ x ∈ o.op.operands, a'.eval x = a.eval x) (hw : Region.wanted o (yielded ops a'.tmps) = Region.wanted o (yielded ops a.tmps)) (ho : r.ok ops k F → r.ok ops k G) (hd : ∀ W, depH ops k G W → depH ops k F W) : Yields P ops C k o r a' G := by
  unfold Yields at *
  rw [hw]
  exact hy.imp (fun ⟨h1, h3, h2⟩ => ⟨h1, ho h3, fun W hc hW => yields_same hs he hx (h2 W hc (hd W hW))⟩) id
theorem Yields.det {k : Nat} {o : Oper} {r r' : Res} {a : Act} {F : Facts} (h : Yields P ops C k o r a F) (h' : Yields P ops C k o r' a F) (hr : Real C F) : r = r' := by
  obtain ⟨_, W, hc, hW⟩ := hr
  rcases h with ⟨hw, _, h⟩ | ⟨hw, h⟩ <;> rcases h' with ⟨hw', _, h'⟩ | ⟨hw', h'⟩
  · exact Res.det (h W hc (depH_of_holds hW)) (h' W hc (depH_of_holds hW))
  · rw [hw] at hw'; cases hw'
  · rw [hw] at hw'; cases hw'
  · rw [h, h']
theorem Yields.ok {k : Nat} {o : Oper} {r : Res} {a : Act} {F : Facts} (h : Yields P ops C k o r a F) : r.ok ops k F := by
  rcases h with ⟨_, h, _⟩ | ⟨_, rfl⟩
  · exact h
  · trivial
theorem wpAnyO_first (hC : UpC C V) (hQ : ∀ a F G, Same F G → Q a F → Q a G) {i : Nat} {oi : Oper} (hi : ops[i]? = some oi) (hsel : ∀ (j : Nat) (o : Oper) cs b, ops[j]? = some o → o.op ≠ .select cs b) :
    ∀ (fuel : Nat) (listed : Array Bool) (a : Act) (F : Facts), Real C F →
      (∀ j oj, ops[j]? = some oj → j ≠ i → listed.getD j true = false → (∀ e ∈ oj.after, Region.binds .any e = true → e.on ≠ i) → oi.apart ops oj = true) →
      i ∈ Region.ready .any ops listed → ∀ ri, Yields P ops C i oi ri a F →
      (∀ x, Real C (ri.facts i x F) → wpAnyO P ops C Q fuel (listed.setIfInBounds i true) (a.put oi.dst (ri.out x)) (ri.facts i x F)) → wpAnyO P ops C Q (fuel + 1) listed a F := by
  have hin : i ≠ ops.size := by have := (Array.getElem?_eq_some_iff.1 hi).1; omega
  intro fuel
  induction fuel with
  | zero =>
    intro listed a F hF _ hr ri hy H
    refine ⟨fun h => (by rw [h] at hr; cases hr), fun j hj => ?_⟩
    by_cases hji : j = i
    · subst hji; unfold stepO; simp only [hi]; exact ⟨ri, hy, H⟩
    · have := ready_mono hj hji
      obtain ⟨x, hx⟩ := real_ex hC hy hF
      rw [(H x hx).1] at this
      cases this
  | succ fuel ih =>
    intro listed a F hF hfree hr ri hy H
    refine ⟨fun h => (by rw [h] at hr; cases hr), fun j hj => ?_⟩
    by_cases hji : j = i
    · subst hji; unfold stepO; simp only [hi]; exact ⟨ri, hy, H⟩
    · have hjr := ready_mono hj hji
      obtain ⟨hjun, oj, hoj, hall⟩ := mem_ready.1 hj
      have hiun := (mem_ready.1 hr).1
      have hnot : ∀ e ∈ oj.after, Region.binds .any e = true → e.on ≠ i := fun e he hb heq => by
        have h1 := hall e he hb
        have h0 := hiun
        rw [heq] at h1
        rcases Nat.lt_or_ge i listed.size with h' | h'
        · simp [h'] at h0 h1; rw [h0] at h1; cases h1
        · simp [Array.getElem?_eq_none h'] at h1
      have hdn : depV ops j i = false := by
        unfold depV depB
        rw [hoj]
        simp only [Option.map_some, Option.getD_some, Bool.or_eq_false_iff, beq_eq_false_iff_ne]
        refine ⟨?_, hin⟩
        rw [Bool.eq_false_iff]
        intro hh
        obtain ⟨e, he, h1⟩ := Array.any_eq_true'.1 hh
        simp only [Bool.and_eq_true, beq_iff_eq] at h1
        exact hnot e he h1.1 h1.2
      obtain ⟨h1, h2, h3⟩ := Oper.apart_spec (hfree j oj hoj hji hjun hnot)
      have hsi := fun cs b => hsel i oi cs b hi
      have hsj := fun cs b => hsel j oj cs b hoj
      -- what j comes to, whatever i handed back
      have Hj : ∀ x, Real C (ri.facts i x F) → ∃ r, Yields P ops C j oj r a F ∧ (∀ g b us g' b' us', r = .put g b us → ri = .put g' b' us' → apartR (g', b', us'.length) (g, b, us.length)) ∧
          ∀ y, Real C (r.facts j y (ri.facts i x F)) → wpAnyO P ops C Q fuel ((listed.setIfInBounds i true).setIfInBounds j true) ((a.put oi.dst (ri.out x)).put oj.dst (r.out y)) (r.facts j y (ri.facts i x F)) := fun x hx => by
        have h := (H x hx).2 j hjr
        unfold stepO at h
        simp only [hoj] at h
        obtain ⟨r, hr1, hr2⟩ := h
        refine ⟨r, hr1.of_same hsj (execOp_put oj hsj a oi.dst _ h1).symm (fun x hx => (eval_put h1 x hx).symm) (wanted_put oj a oi.dst _ h1).symm (ok_less hdn) (fun W hW => depH_more hdn hW), ?_, hr2⟩
        intro g b us g' b' us' e e'
        have h5 := hr1.ok
        rw [e, e'] at h5
        exact h5.2 _ List.mem_cons_self
      obtain ⟨x0, hx0⟩ := real_ex hC hy hF
      obtain ⟨rj, hyj, hap, _⟩ := Hj x0 hx0
      unfold stepO
      simp only [hoj]
      refine ⟨rj, hyj, fun y hy1 => ?_⟩
      have hfree' : ∀ k ok, ops[k]? = some ok → k ≠ i → (listed.setIfInBounds j true).getD k true = false →
          (∀ e ∈ ok.after, Region.binds .any e = true → e.on ≠ i) → oi.apart ops ok = true := fun k ok hk hki hun hno => by
        refine hfree k ok hk hki ?_ hno
        by_cases hjk : j = k
        · subst hjk; exact hjun
        · rw [getD_set_ne true hjk] at hun; exact hun
      have hap' : ∀ g b us g' b' us', ri = .put g b us → rj = .put g' b' us' → apartR (g, b, us.length) (g', b', us'.length) := fun g b us g' b' us' e e' => hap g' b' us' g b us e' e
      refine ih (listed.setIfInBounds j true) _ _ hy1 hfree' (ready_mono hr (Ne.symm hji)) ri ?_ (fun x hx => ?_)
      · exact hy.of_same hsi (execOp_put oi hsi a oj.dst _ h3) (fun x hx => eval_put h3 x hx) (wanted_put oi a oj.dst _ h3) (fun h => ok_more h (fun g b us g' b' us' e e' => (hap' g b us g' b' us' e e').symm)) (fun W hW => depH_less hW)
      · have hsw := facts_swap (ops := ops) (x := x) (x' := y) (k := i) (k' := j) (r := ri) (r' := rj) hx.1 hy.ok hyj.ok hap'
        have hx' : Real C (ri.facts i x F) := (hsw.real hx).less
        obtain ⟨r, hr1, _, hr2⟩ := Hj x hx'
        have e : r = rj := hr1.det hyj hF
        subst e
        have := hr2 y (hsw.real hx)
        rw [Array.setIfInBounds_comm _ _ (Ne.symm hji), Act.put_comm a (ri.out x) (r.out y) h2] at this
        exact wpAnyO_perm hQ _ _ _ _ _ hsw.symm this
theorem wpAnyO_lex (hC : UpC C V) (hQ : ∀ a F G, Same F G → Q a F → Q a G) (hs : Region.noSelect ops = true) : ∀ (l : List Oper) (k : Nat) (listed : Array Bool) (a : Act) (F : Facts), Real C F → (∀ j, l[j]? = ops[k + j]?) →
    Region.lexFrom .any ops l.length k listed = true → wpO P ops C Q k l a F → wpAnyO P ops C Q l.length listed a F
  | [], _, _, _, _, _, _, hB, h => ⟨by simpa [Region.lexFrom] using hB, h⟩
  | o :: l, k, listed, a, F, hF, hl, hB, h => by
    have h0 : ops[k]? = some o := by simpa using (hl 0).symm
    simp only [List.length_cons, Region.lexFrom, Bool.and_eq_true] at hB
    obtain ⟨⟨hr, hf⟩, hB'⟩ := hB
    obtain ⟨r, hy, hK⟩ := h
    exact wpAnyO_first hC hQ h0 (Region.noSelect_spec hs) l.length listed a F hF (Region.free_spec h0 hf) (by simpa using hr) r hy
      (fun x hx => wpAnyO_lex hC hQ hs l (k + 1) _ _ _ hx (fun j => by have := hl (j + 1); simpa [Nat.add_assoc, Nat.add_comm 1 j] using this) hB' (hK x hx))
theorem setR_row {cs : Array Value} {j : Nat} {us : List Value} (h : j + us.length ≤ cs.size) : setR j us cs = (cs.toList.take j ++ us ++ cs.toList.drop (j + us.length)).toArray := by
  apply Array.ext_getElem?
  intro i
  simp only [setR, Array.getElem?_mapIdx]
  by_cases hi : i < cs.size
  · rw [Array.getElem?_eq_getElem hi, Option.map_some]
    simp only [List.getElem?_toArray]
    by_cases h1 : i < j
    · rw [if_neg (by omega), List.append_assoc, List.getElem?_append_left (by simp; omega), List.getElem?_take_of_lt h1]
      simp [hi]
    · by_cases h2 : i < j + us.length
      · rw [if_pos ⟨by omega, h2⟩, List.getElem?_append_left (by simp; omega), List.getElem?_append_right (by simp; omega)]
        have h3 : i - (List.take j cs.toList).length = i - j := by simp; omega
        rw [h3, List.getD_eq_getElem?_getD, List.getElem?_eq_getElem (by omega)]
        rfl
      · rw [if_neg (by omega), List.getElem?_append_right (by simp; omega), List.getElem?_drop]
        have h3 : j + us.length + (i - (List.take j cs.toList ++ us).length) = i := by simp; omega
        rw [h3]
        simp [hi]
  · rw [Array.getElem?_eq_none (by omega)]
    simp only [List.getElem?_toArray, Option.map_none]
    rw [List.getElem?_eq_none (by simp; omega)]
theorem holds_put {F : Facts} {w : World} {g j k x : Nat} {us : List Value} (hF : holds F w) (hs : Sep F) (ho : (Res.put g j us).ok ops k F) : holds ((Res.put g j us).facts k x F) (w.setCells g j us) := by
  obtain ⟨⟨e, he, hg, _, hsz⟩, _⟩ := ho
  have hgb := hF.2 e he
  have hfar : ∀ b, b ≠ g → (w.setCells g j us).heap[b]? = w.heap[b]? := fun b hb => setCells_far us j b hb
  refine ⟨fun p hp => ?_, fun d hd => ?_⟩
  · exact (hfar _ (fun q => hs.1 p hp e he (q.trans hg.symm))).trans (hF.1 p hp)
  · obtain ⟨e0, q1, q0, q2, q3, q4, q5, q6⟩ := upd_mem hd
    by_cases hq : d.2.1 = g
    · have h0 := hF.2 e0 q1
      rw [q2, hq] at h0
      have h1 := hgb
      rw [hg, h0] at h1
      injection h1 with h1
      injection h1 with h1 h2
      obtain ⟨cur', c1, c2, c3⟩ := setCells_row us j w e0.2.2.2 h0 (by rw [h1]; exact hsz)
      have h6 : cur' = setR j us e0.2.2.2 := by
        rw [setR_row (by rw [h1]; exact hsz)]
        apply Array.ext'
        rw [c3]
      rw [hq, c1, h6, q5 hq, q3]
    · rw [hfar _ hq, q6 hq]
      exact hF.2 e0 q1
def InV (V : Nat → Prop) (F : Facts) : Prop := ∀ e, e ∈ F.var → V e.2.1
theorem wpOp_of_stepO (hC : UpC C V) {i : Nat} {a : Act} {F : Facts} {K : Act → Facts → Prop} {K' : Act → World → Prop} {Q' : Exit → Act → World → Prop} {w : World} (hc : C w) (hF : holds F w) (hs : Sep F) (hv : InV V F) (h : ∀ a F w', C w' → holds F w' → Sep F → InV V F → K a F → K' a w') (hh : stepO P ops C i K a F) : wpOp P ops Q' i K' a w := by
  unfold stepO at hh
  unfold wpOp
  split
  · rename_i ho; simp only [ho] at hh; exact h _ _ _ hc hF hs hv hh
  · rename_i o ho
    simp only [ho] at hh
    obtain ⟨r, hy, hK⟩ := hh
    rcases hy with ⟨hw, hok, hy⟩ | ⟨hw, rfl⟩
    · rw [if_pos hw]
      refine .inl ?_
      have hy := hy w hc (depH_of_holds hF.s)
      unfold Oper.wp
      cases r with
      | val v =>
        obtain ⟨_, hy⟩ := hy
        have hK : K (a.put o.dst v) F := hK 0 ⟨hs, w, hc, hF.s⟩
        generalize (execOp a.eval o).run P w = q at *
        cases q with
        | ok n w' =>
          cases n <;> simp only [dUpon] at hy <;> simp only [Oper.upon]
          case value u =>
            obtain ⟨e1, e2⟩ := hy
            rw [e1, e2]
            exact h _ _ _ hc hF hs hv hK
          case skip =>
            obtain ⟨e1, e2⟩ := hy
            rw [e1, ← e2]
            exact h _ _ _ hc hF hs hv hK
          case enter f args =>
            obtain ⟨e1, _, hcall⟩ := hy
            rw [e1]
            exact hcall.mono fun e w'' ⟨he, hb⟩ => by subst he; exact h _ _ _ (hC.up _ _ hc hb) (holds_below hF hb) hs hv hK
        | halt x w' => simp only [dUpon] at hy
      | new s ob =>
        obtain ⟨_, hy⟩ := hy
        rw [hy]
        simp only [Oper.upon]
        have hB : Below w.heap.size w (w.alloc ob) := below_alloc (Below.refl _ _) _
        have hF' : holds ((Res.new s ob).facts i w.heap.size F) (w.alloc ob) := ⟨fun p hp => by
          rcases List.mem_cons.1 hp with rfl | hp
          · exact blk_new w ob
          · exact (holds_below hF hB).1 p hp, (holds_below hF hB).2⟩
        have hs' : Sep ((Res.new s ob).facts i w.heap.size F) := ⟨fun p hp e he => by
          rcases List.mem_cons.1 hp with rfl | hp
          · have := obj_lt (hF.2 e he)
            intro e'
            have e' : w.heap.size = e.2.1 := e'
            omega
          · exact hs.1 p hp e he, hs.2⟩
        exact h _ _ _ (hC.up _ _ hc hB) hF' hs' hv (hK _ ⟨hs', _, hC.up _ _ hc hB, hF'.s⟩)
      | newv t cs =>
        obtain ⟨_, hy⟩ := hy
        rw [hy]
        simp only [Oper.upon]
        have hB : Below w.heap.size w (w.alloc (.cells cs t (0, 0))) := below_alloc (Below.refl _ _) _
        have hF' : holds ((Res.newv t cs).facts i w.heap.size F) (w.alloc (.cells cs t (0, 0))) := ⟨(holds_below hF hB).1, fun e he => by
          rcases List.mem_cons.1 he with rfl | he
          · exact blk_new w _
          · exact (holds_below hF hB).2 e he⟩
        have hs' : Sep ((Res.newv t cs).facts i w.heap.size F) := ⟨fun p hp e he => by
          rcases List.mem_cons.1 he with rfl | he
          · have := obj_lt (hF.1 p hp)
            intro e'
            have e' : p.2.1 = w.heap.size := e'
            omega
          · exact hs.1 p hp e he, by
          simp only [Res.facts, List.map_cons, List.nodup_cons]
          refine ⟨fun hm => ?_, hs.2⟩
          obtain ⟨e, he, q⟩ := List.mem_map.1 hm
          have := obj_lt (hF.2 e he)
          omega⟩
        have hv' : InV V ((Res.newv t cs).facts i w.heap.size F) := fun e he => by
          rcases List.mem_cons.1 he with rfl | he
          · exact hC.fresh w hc
          · exact hv e he
        exact h _ _ _ (hC.up _ _ hc hB) hF' hs' hv' (hK _ ⟨hs', _, hC.up _ _ hc hB, hF'.s⟩)
      | put g j us =>
        obtain ⟨_, hy⟩ := hy
        have hF' := holds_put (k := i) (x := 0) hF hs hok
        obtain ⟨⟨e, he, hg, hd, hsz⟩, hl⟩ := hok
        have hC' : C (w.setCells g j us) := hC.put w g j us _ _ hc (hg ▸ hv e he) (hg ▸ hF.2 e he)
        have hs' : Sep ((Res.put g j us).facts i 0 F) := ⟨fun p hp d hd => by
          obtain ⟨e0, q1, _, q2, _⟩ := upd_mem hd
          rw [← q2]
          exact hs.1 p hp e0 q1, by
          simp only [Res.facts]
          rw [upd_blocks]
          exact hs.2⟩
        have hv' : InV V ((Res.put g j us).facts i 0 F) := fun d hd => by
          obtain ⟨e0, q1, _, q2, _⟩ := upd_mem hd
          rw [← q2]
          exact hv e0 q1
        have hK := hK 0 ⟨hs', _, hC', hF'.s⟩
        generalize (execOp a.eval o).run P w = q at *
        cases q with
        | ok n w' =>
          cases n <;> simp only [pUpon] at hy <;> simp only [Oper.upon]
          case value u =>
            obtain ⟨e1, e2⟩ := hy
            rw [e1, e2]
            exact h _ _ _ hC' hF' hs' hv' hK
          case skip =>
            rw [hy]
            exact h _ _ _ hC' hF' hs' hv' hK
        | halt x w' => simp only [pUpon] at hy
    · rw [if_neg (by rw [hw]; decide)]
      exact h _ _ _ hc hF hs hv (hK 0 ⟨hs, w, hc, hF.s⟩)
theorem wpAny_of_O (hC : UpC C V) {Q' : Exit → Act → World → Prop} (hQ : ∀ a F w, C w → holds F w → Sep F → InV V F → Q a F → Q' .normal a w) : ∀ (fuel : Nat) (listed : Array Bool) (a : Act) (F : Facts) (w : World), C w → holds F w → Sep F → InV V F →
    wpAnyO P ops C Q fuel listed a F → wpAny P .any ops Q' fuel listed a w
  | 0, _, _, _, _, hw, hF, hs, hv, h => ⟨h.1, hQ _ _ _ hw hF hs hv h.2⟩
  | fuel + 1, _, _, _, _, hw, hF, hs, hv, h => ⟨fun h0 => hQ _ _ _ hw hF hs hv (h.1 h0), fun i hi => wpOp_of_stepO hC hw hF hs hv (fun a' F' w' hw' hF' hs' hv' => wpAny_of_O hC hQ fuel _ a' F' w' hw' hF' hs' hv') (h.2 i hi)⟩
theorem wp_region_O (hC : UpC C V) {id : Nat} {Q' : Exit → Act → World → Prop} {a : Act} {w : World} (F0 : Facts) (hm : P.follows .mixedOrders = true) (hB : Region.lexB .any ops = true) (hc : C w) (hF : holds F0 w) (hs : Sep F0) (hv : InV V F0)
    (h : wpO P ops C (fun a' F => ∀ w', C w' → holds F w' → Sep F → InV V F → Q' .normal a' w') 0 ops.toList a F0) : (Code.region id ops true).wp P Q' a w := by
  simp only [Region.lexB, Bool.and_eq_true] at hB
  have hb : Below w.heap.size w { w with drawn := w.drawn + 1 } := ⟨rfl, rfl, rfl, Nat.le_refl _, fun _ _ => rfl⟩
  have hc' : C { w with drawn := w.drawn + 1 } := hC.up _ _ hc hb
  have hF' := holds_below hF hb
  refine wp_region_any hm (wpAny_of_O hC (Q := fun a' F => ∀ w', C w' → holds F w' → Sep F → InV V F → Q' .normal a' w') (fun _ _ w' hw' hF hs hv h => h w' hw' hF hs hv) _ _ _ F0 _ hc' hF' hs hv ?_)
  have := wpAnyO_lex (C := C) hC (Q := fun a' F => ∀ w', C w' → holds F w' → Sep F → InV V F → Q' .normal a' w') (fun a F G h hh w' hw' hG hsG hvG => hh w' hw' (h.symm.holds hG) (h.symm.sep hsG) (fun e he => hvG e (h.var.mem_iff.1 he))) hB.1 ops.toList 0 (Array.replicate ops.size false) a F0 ⟨hs, _, hc', hF'.s⟩ (by simp) (by simpa using hB.2) h
  simpa using this
end
end Go.Proofs.YtdaohldmojpihaaGreatDoorKr
