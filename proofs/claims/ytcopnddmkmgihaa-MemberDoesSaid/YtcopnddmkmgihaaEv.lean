/- Laws for walks in which the world after a write is a letter: what a function's own variables hold, and what else still reads as it did. -/
import Derived.Test.YtcopnddmkmgihaaWMore
import Derived.Test.YtcopnddmkmgihaaWShare
import Derived.Test.YtcopnddmkmgihaaWN
import Derived.Test.YtcopnddmkmgihaaWFoot
import Derived.Laws.Rows
import Derived.Lib.Hide
import Derived.BigQuiet
namespace Go.Proofs.YtcopnddmkmgihaaEv
open Go.RowKit Go.Proofs.YtcopnddmkmgihaaW.PrintWords Go.Proofs.YtcopnddmkmgihaaW.PrintLast Go.Proofs.YtcopnddmkmgihaaW.PrintMore

theorem reps_ints (W : World) (xs : List Int) : Reps ((Kd.int .i64).K W) (Kd.int .i64).sz xs (xs.map (Value.int .i64)) := by
  refine ⟨by simp [Kd.int, Kd.scalar], fun j q hq => ?_⟩
  show ((xs.map (Value.int .i64)).drop (j * 1)).take 1 = [Value.int .i64 q]
  rw [Nat.mul_one, List.drop_eq_getElem_cons (by rw [List.length_map]; exact (List.getElem?_eq_some_iff.1 hq).1)]
  simp [(List.getElem?_eq_some_iff.1 hq).2]
theorem reps_one {α : Type} {d : Kd α} {W : World} {x : α} {c : List Value} (h : d.K W x c) : Reps (d.K W) d.sz [x] c := by
  refine ⟨by rw [d.K_len h, List.length_singleton, Nat.one_mul], fun j q hq => ?_⟩
  have hj : j = 0 := by
    have := (List.getElem?_eq_some_iff.1 hq).1
    simpa using this
  subst hj
  have hq' : x = q := by simpa using hq
  subst hq'
  rw [Nat.zero_mul, List.drop_zero, ← d.K_len h, List.take_length]
  exact h
theorem tr_cells {W : World} {ok : Nat → Prop} {ad : Addr} {n : Nat} {c : List Value} (hk : ok ad.block) (h : ∀ j u, c[j]? = some u → W.cell? (ad.add (n + j)) = some u) : Foot (fun W => ∀ j u, c[j]? = some u → W.cell? ((ad.add n).add j) = some u) W ok := by
  intro W' hW j u hu
  have h5 := h j u hu
  have h6 := World.block_lt_of_cell? W _ h5
  rw [add_block] at h6
  have hb := hW _ hk h6
  rw [add_add]
  rw [show W'.cell? (ad.add (n + j)) = W.cell? (ad.add (n + j)) by simp [World.cell?, add_block, hb]]
  exact h5
def Stop (p : Prop) : Prop := p
theorem stop_ {p : Prop} (h : Stop p) : p := h

/-- What was there is there still, but for the blocks of A. -/
structure Keep (A : Nat → Prop) (W W' : World) : Prop where
  size : W.heap.size ≤ W'.heap.size
  same : ∀ k, k < W.heap.size → ¬ A k → W'.heap[k]? = W.heap[k]?
theorem Keep.refl (A : Nat → Prop) (W : World) : Keep A W W := ⟨Nat.le_refl _, fun _ _ _ => rfl⟩
theorem Keep.trans {A : Nat → Prop} {W W1 W2 : World} (h : Keep A W W1) (g : Keep A W1 W2) : Keep A W W2 :=
  ⟨Nat.le_trans h.size g.size, fun k hk ha => (g.same k (Nat.lt_of_lt_of_le hk h.size) ha).trans (h.same k hk ha)⟩
theorem Keep.mono {A A' : Nat → Prop} {W W' : World} (h : Keep A W W') (hA : ∀ k, k < W.heap.size → A k → A' k) : Keep A' W W' := ⟨h.size, fun k hk ha => h.same k hk (fun g => ha (hA k hk g))⟩
theorem Keep.of_below {A : Nat → Prop} {W W' : World} (h : Below W.heap.size W W') : Keep A W W' := ⟨h.size, fun k hk _ => h.block k hk⟩
/-- p holds now, and as long as all but the blocks of A stays. -/
abbrev Tr (A : Nat → Prop) (W : World) (p : World → Prop) : Prop := Foot p W (fun k => ¬ A k)
theorem Tr.of_foot {A : Nat → Prop} {W : World} {p : World → Prop} (h : Foot p W (fun k => ¬ A k)) : Tr A W p := h
theorem Tr.keep {A : Nat → Prop} {W W1 : World} {p : World → Prop} (h : Tr A W p) (k : Keep A W W1) : Tr A W1 p := Foot.step h (fun j ha hj => k.same j hj ha)
theorem Tr.less {A A' : Nat → Prop} {W : World} {p : World → Prop} (h : Tr A' W p) (hA : ∀ k, k < W.heap.size → A k → A' k) : Tr A W p := fun W' g => h W' (fun k hk hl => g k (fun q => hk (hA k hl q)) hl)
theorem Tr.true (A : Nat → Prop) (W : World) : Tr A W (fun _ => True) := fun _ _ => trivial
theorem Tr.and {A : Nat → Prop} {W : World} {p q : World → Prop} (h : Tr A W p) (g : Tr A W q) : Tr A W (fun W => p W ∧ q W) := fun W' k => ⟨h W' k, g W' k⟩

theorem Tr.of_C {α : Type} {d : Kd α} {W : World} {A1 : Option Addr} {n : Nat} {xs : List α} (h : d.C W A1 n xs) (hd : Kd.Heap d) : Tr (fun _ => False) W (fun W => d.C W A1 n xs) := Foot.mono (Kd.C_F hd h) (fun _ _ => id)
/-- The blocks of a list of variables. -/
def Of (bl : List (Nat × TypeId × Array Value)) (k : Nat) : Prop := ∃ x, x ∈ bl ∧ x.1 = k
/-- A function's own variables (their blocks, types, cells), and what else holds. -/
structure Fr (A : Nat → Prop) (w W : World) (bl : List (Nat × TypeId × Array Value)) (p : World → Prop) : Prop where
  av : ∀ k, A k → k < w.heap.size
  below : Below w.heap.size w W
  blk : ∀ x, x ∈ bl → W.heap[x.1]? = some (.cells x.2.2 x.2.1 (0, 0)) ∧ w.heap.size ≤ x.1
  nd : bl.Pairwise (fun x y => x.1 ≠ y.1)
  tr : Tr (fun k => A k ∨ Of bl k) W p
theorem Fr.start {A : Nat → Prop} {w : World} {p : World → Prop} (hA : ∀ k, A k → k < w.heap.size) (h : Tr A w p) : Fr A w w [] p :=
  ⟨hA, Below.refl _ _, fun x hx => by simp at hx, List.Pairwise.nil, Tr.less h (fun k _ g => by rcases g with g | ⟨x, hx, _⟩; exact g; simp at hx)⟩
theorem Fr.alloc {A : Nat → Prop} {w W W1 : World} {bl : List (Nat × TypeId × Array Value)} {p : World → Prop} {g : Nat} {t : TypeId} {cs : Array Value} (h : Fr A w W bl p) (hg : g = W.heap.size) (hb : W1.heap[g]? = some (.cells cs t (0, 0))) (hB : Below W.heap.size W W1) :
    Fr A w W1 ((g, t, cs) :: bl) p := by
  subst hg
  refine ⟨h.av, h.below.trans (hB.mono h.below.size), ?_, ?_, ?_⟩
  · intro x hx
    rcases List.mem_cons.1 hx with rfl | hx
    · exact ⟨hb, h.below.size⟩
    · obtain ⟨h1, h2⟩ := h.blk x hx
      exact ⟨(hB.block _ (blk_lt h1)).trans h1, h2⟩
  · refine List.Pairwise.cons ?_ h.nd
    intro x hx e
    have := blk_lt (h.blk x hx).1
    have e' : W.heap.size = x.1 := e
    omega
  · refine fun W' k => h.tr W' (fun j ha hj => (k j (fun q => ?_) (by have := hB.size; omega)).trans (hB.block j hj))
    rcases q with q | ⟨x, hx, e⟩
    · exact ha (.inl q)
    · rcases List.mem_cons.1 hx with rfl | hx
      · have e' : W.heap.size = j := e
        omega
      · exact ha (.inr ⟨x, hx, e⟩)
/-- A variable's place on the list, and the list with its cells turned. -/
inductive At : List (Nat × TypeId × Array Value) → Nat → TypeId → Array Value → Array Value → List (Nat × TypeId × Array Value) → Prop
  | head {g : Nat} {t : TypeId} {old cs : Array Value} {bl : List (Nat × TypeId × Array Value)} : At ((g, t, old) :: bl) g t old cs ((g, t, cs) :: bl)
  | tail {g : Nat} {t : TypeId} {old cs : Array Value} {x : Nat × TypeId × Array Value} {bl bl' : List (Nat × TypeId × Array Value)} (h : At bl g t old cs bl') : At (x :: bl) g t old cs (x :: bl')
theorem At.mem {bl bl' : List (Nat × TypeId × Array Value)} {g : Nat} {t : TypeId} {old cs : Array Value} (h : At bl g t old cs bl') : (g, t, old) ∈ bl := by
  induction h with
  | head => exact List.mem_cons_self
  | tail _ ih => exact List.mem_cons_of_mem _ ih
theorem At.map {bl bl' : List (Nat × TypeId × Array Value)} {g : Nat} {t : TypeId} {old cs : Array Value} (h : At bl g t old cs bl') : bl'.map (·.1) = bl.map (·.1) := by
  induction h with
  | head => rfl
  | tail _ ih => simp [ih]
theorem At.of {bl bl' : List (Nat × TypeId × Array Value)} {g : Nat} {t : TypeId} {old cs : Array Value} (h : At bl g t old cs bl') (k : Nat) : Of bl' k ↔ Of bl k := by
  have e := h.map
  have h1 : ∀ l : List (Nat × TypeId × Array Value), Of l k ↔ k ∈ l.map (·.1) := fun l => by simp [Of]
  rw [h1, h1, e]
theorem At.other {bl bl' : List (Nat × TypeId × Array Value)} {g : Nat} {t : TypeId} {old cs : Array Value} (h : At bl g t old cs bl') (nd : bl.Pairwise (fun x y => x.1 ≠ y.1)) : ∀ x, x ∈ bl' → x = (g, t, cs) ∨ (x ∈ bl ∧ x.1 ≠ g) := by
  induction h with
  | head =>
    intro x hx
    rcases List.mem_cons.1 hx with rfl | hx
    · exact .inl rfl
    · exact .inr ⟨List.mem_cons_of_mem _ hx, fun e => (List.pairwise_cons.1 nd).1 x hx e.symm⟩
  | tail h ih =>
    intro x hx
    rcases List.mem_cons.1 hx with rfl | hx
    · exact .inr ⟨List.mem_cons_self, fun e => (List.pairwise_cons.1 nd).1 _ h.mem e⟩
    · rcases ih (List.pairwise_cons.1 nd).2 x hx with rfl | ⟨h1, h2⟩
      · exact .inl rfl
      · exact .inr ⟨List.mem_cons_of_mem _ h1, h2⟩
theorem pairwise_map {bl bl' : List (Nat × TypeId × Array Value)} (e : bl'.map (·.1) = bl.map (·.1)) (h : bl.Pairwise (fun x y => x.1 ≠ y.1)) : bl'.Pairwise (fun x y => x.1 ≠ y.1) := by
  have h1 : ∀ l : List (Nat × TypeId × Array Value), l.Pairwise (fun x y => x.1 ≠ y.1) ↔ (l.map (·.1)).Pairwise (· ≠ ·) := fun l => by rw [List.pairwise_map]
  rw [h1] at h ⊢
  rw [e]
  exact h
theorem Fr.put {A : Nat → Prop} {w W W1 : World} {bl bl' : List (Nat × TypeId × Array Value)} {p : World → Prop} {g : Nat} {t : TypeId} {old cs : Array Value} (h : Fr A w W bl p) (ha : At bl g t old cs bl') (hb : W1.heap[g]? = some (.cells cs t (0, 0)))
    (hg : W.grownBy W1 (some g)) (hf : ∀ k, k ≠ g → W1.heap[k]? = W.heap[k]?) (hs : W1.heap.size = W.heap.size) : Fr A w W1 bl' p := by
  have hm := h.blk _ ha.mem
  refine ⟨h.av, h.below.grown hg h.below.size (fun k e => by injection e with e; exact e ▸ hm.2), ?_, pairwise_map ha.map h.nd, ?_⟩
  · intro x hx
    rcases ha.other h.nd x hx with rfl | ⟨h1, h2⟩
    · exact ⟨hb, hm.2⟩
    · exact ⟨(hf _ h2).trans (h.blk x h1).1, (h.blk x h1).2⟩
  · refine fun W' k => h.tr W' (fun j hn hj => ?_)
    have hjg : j ≠ g := fun e => hn (.inr ⟨_, ha.mem, e.symm⟩)
    exact (k j (fun q => hn (q.imp id (ha.of j).1)) (by omega)).trans (hf j hjg)
theorem Fr.call {A : Nat → Prop} {w W W1 : World} {bl : List (Nat × TypeId × Array Value)} {p : World → Prop} (h : Fr A w W bl p) (hB : Below W.heap.size W W1) : Fr A w W1 bl p :=
  ⟨h.av, h.below.trans (hB.mono h.below.size), fun x hx => ⟨(hB.block _ (blk_lt (h.blk x hx).1)).trans (h.blk x hx).1, (h.blk x hx).2⟩, h.nd, Tr.keep h.tr (Keep.of_below hB)⟩
/-- Behind a call: and what it hands back reads so. -/
theorem Fr.call2 {A : Nat → Prop} {w W W1 : World} {bl : List (Nat × TypeId × Array Value)} {p q : World → Prop} (h : Fr A w W bl p) (hB : Below W.heap.size W W1) (hq : Tr (fun k => A k ∨ Of bl k) W1 q) : Fr A w W1 bl (fun W => p W ∧ q W) :=
  ⟨h.av, h.below.trans (hB.mono h.below.size), fun x hx => ⟨(hB.block _ (blk_lt (h.blk x hx).1)).trans (h.blk x hx).1, (h.blk x hx).2⟩, h.nd, Tr.and (Tr.keep h.tr (Keep.of_below hB)) hq⟩
theorem Fr.imp {A : Nat → Prop} {w W : World} {bl : List (Nat × TypeId × Array Value)} {p q : World → Prop} (h : Fr A w W bl p) (g : ∀ W', p W' → q W') : Fr A w W bl q := ⟨h.av, h.below, h.blk, h.nd, Foot.imp h.tr g⟩
/-- Some variables are no longer looked at. -/
theorem Fr.drop {A : Nat → Prop} {w W : World} {x : Nat × TypeId × Array Value} {bl : List (Nat × TypeId × Array Value)} {p : World → Prop} (h : Fr A w W (x :: bl) p) : Fr A w W bl p :=
  ⟨h.av, h.below, fun y hy => h.blk y (List.mem_cons_of_mem _ hy), (List.pairwise_cons.1 h.nd).2, Tr.less h.tr (fun _ _ g => g.imp id (fun ⟨y, hy, e⟩ => ⟨y, List.mem_cons_of_mem _ hy, e⟩))⟩
theorem Fr.drewN {A : Nat → Prop} {w W : World} {bl : List (Nat × TypeId × Array Value)} {p : World → Prop} (h : Fr A w W bl p) (n : Nat) : Fr A w (W.drewN n) bl p := h.call (pw_below_drewN (Below.refl _ _) n)
theorem Fr.avs {A : Nat → Prop} {w W : World} {bl : List (Nat × TypeId × Array Value)} {p : World → Prop} (h : Fr A w W bl p) : ∀ k, (A k ∨ Of bl k) → k < W.heap.size := by
  rintro k (hk | ⟨x, hx, rfl⟩)
  · exact Nat.lt_of_lt_of_le (h.av k hk) h.below.size
  · exact blk_lt (h.blk x hx).1
theorem Fr.now {A : Nat → Prop} {w W : World} {bl : List (Nat × TypeId × Array Value)} {p : World → Prop} (h : Fr A w W bl p) : p W := Foot.now h.tr
theorem Fr.out {A : Nat → Prop} {w W : World} {bl : List (Nat × TypeId × Array Value)} {p : World → Prop} (h : Fr A w W bl p) : Tr A W p := Tr.less h.tr (fun _ _ g => .inl g)
theorem Fr.cell {A : Nat → Prop} {w W : World} {bl bl' : List (Nat × TypeId × Array Value)} {p : World → Prop} {g : Nat} {t : TypeId} {cs : Array Value} (h : Fr A w W bl p) (ha : At bl g t cs cs bl') (j : Nat) : W.cell? ⟨g, j, none⟩ = cs[j]? := blk_cell (h.blk _ ha.mem).1 j
theorem Fr.frozen {A : Nat → Prop} {w W : World} {bl bl' : List (Nat × TypeId × Array Value)} {p : World → Prop} {g : Nat} {t : TypeId} {cs : Array Value} (h : Fr A w W bl p) (ha : At bl g t cs cs bl') (j : Nat) : W.frozen? ⟨g, j, none⟩ = false := blk_frozen (h.blk _ ha.mem).1 j

section
variable {P : Program} {ops : Array Oper} {rest : List Oper} {o : Oper} {a : Act} {Q : Exit → Act → World → Prop} {A : Nat → Prop} {w W : World} {bl bl' : List (Nat × TypeId × Array Value)} {p : World → Prop}
/-- An operation that reads and writes no memory. -/
theorem fr_pure {N : Tmp} (_hd : o.dst = some N) (hgd : o.guard = none) {v : Value} (hrun : ∀ W (K : Result Next → Prop), Hid (K (.ok (.value v) W)) → K ((execOp a.eval o).run P W))
    (h : wpList P ops Q rest (a.put o.dst v) W) : wpList P ops Q (o :: rest) a W := by
  have hr : (execOp a.eval o).run P W = .ok (.value v) W := hrun W (fun r => r = .ok (.value v) W) (Lib.hid rfl)
  refine wpList_plain hgd fun K hK => ?_
  unfold Oper.wp
  rw [hr]
  exact hK _ _ h
/-- A new variable. -/
theorem fr_new (H : Fr A w W bl p) {N : Tmp} (hd : o.dst = some N) (hgd : o.guard = none) {cs : Array Value} {t : TypeId}
    (hrun : (execOp a.eval o).run P W = .ok (.value (.pointer (some ⟨W.heap.size, 0, none⟩))) (W.alloc (.cells cs t (0, 0))))
    (h : ∀ g w1, Fr A w w1 ((g, t, cs) :: bl) p → wpList P ops Q rest (a.put o.dst (.pointer (some ⟨g, 0, none⟩))) w1) : wpList P ops Q (o :: rest) a W :=
  box_event hgd hd hrun fun g hg w1 hb hB => h g w1 (H.alloc hg hb hB)
/-- A parameter becomes a variable. -/
theorem fr_box (H : Fr A w W bl p) {t : TypeId} {x : Operand} (ho : o.op = .box t x) (hgd : o.guard = none) {cs : Array Value} (hx : a.eval x = .agg cs)
    (h : ∀ g w1, Fr A w w1 ((g, t, cs) :: bl) p → wpList P ops Q rest (a.put o.dst (.pointer (some ⟨g, 0, none⟩))) w1) : wpList P ops Q (o :: rest) a W := by
  refine Kd.event_run hgd ?_ (h _ _ (H.alloc rfl (blk_new W (.cells cs t (0, 0))) (below_alloc (Below.refl _ _) _)))
  simp [execOp, ho, Instr.box, newVar, newRow, newObj, hx]
  rfl
/-- .. of one cell. -/
theorem fr_box1 (H : Fr A w W bl p) {t : TypeId} {x : Operand} (ho : o.op = .box t x) (hgd : o.guard = none) {v : Value} (hx : a.eval x = v) (hv : v.cells = #[v])
    (h : ∀ g w1, Fr A w w1 ((g, t, #[v]) :: bl) p → wpList P ops Q rest (a.put o.dst (.pointer (some ⟨g, 0, none⟩))) w1) : wpList P ops Q (o :: rest) a W := by
  refine Kd.event_run hgd ?_ (h _ _ (H.alloc rfl (blk_new W (.cells #[v] t (0, 0))) (below_alloc (Below.refl _ _) _)))
  simp [execOp, ho, Instr.box, newVar, newRow, newObj, hx, hv]
  rfl
/-- A row written out. -/
theorem fr_lit {α : Type} (H : Fr A w W bl p) (d : Kd α) (xs : List α) {n : Nat} {inner : List Value} {e : TypeId} {N : Tmp} (_hd : o.dst = some N) (hgd : o.guard = none)
    (hrun : (execOp a.eval o).run P W = .ok (.value (.slice (some ⟨W.heap.size, 0, none⟩) n n)) (W.alloc (.cells inner.toArray e (0, 0)))) (hn : n = xs.length) (hm : n ≤ 9223372036854775807) (hrep : ∀ W', p W' → Reps (d.K W') d.sz xs inner)
    (h : ∀ g w1, Fr A w w1 bl (fun W => p W ∧ d.C W (some ⟨g, 0, none⟩) n xs) → wpList P ops Q rest (a.put o.dst (.slice (some ⟨g, 0, none⟩) n n)) w1) : wpList P ops Q (o :: rest) a W := by
  subst hn
  have hB : Below W.heap.size W (W.alloc (.cells inner.toArray e (0, 0))) := below_alloc (Below.refl _ _) _
  refine Kd.event_run hgd hrun (h _ _ (H.call2 hB ?_))
  intro W' hW'
  have hp := Tr.keep H.tr (Keep.of_below hB) W' hW'
  have hg := hW' W.heap.size (fun hk => by
    have := H.avs _ hk
    omega) (by simp)
  have hr := hrep W' hp
  rw [blk_new W (.cells inner.toArray e (0, 0))] at hg
  refine ⟨rfl, hm, fun hpos => ⟨_, rfl, fun j q hq => ?_⟩⟩
  refine ⟨(inner.drop (j * d.sz)).take d.sz, ?_, hr.2 j q hq, fun i u hu => ?_⟩
  · exact d.K_len (hr.2 j q hq)
  · have hi : i < d.sz := by
      have := (List.getElem?_eq_some_iff.1 hu).1
      rw [List.length_take] at this
      omega
    rw [List.getElem?_take, if_pos hi, List.getElem?_drop] at hu
    have hc := blk_cell hg (j * d.sz + i)
    rw [show ((⟨W.heap.size, 0, none⟩ : Addr).add (j * d.sz + i)) = ⟨W.heap.size, j * d.sz + i, none⟩ by
      unfold Addr.add
      split
      · rename_i h0; rw [h0]
      · simp, hc]
    simpa using hu
/-- A whole variable is stored. -/
theorem fr_put (H : Fr A w W bl p) {t : TypeId} {x v : Operand} (ho : o.op = .store t x v) (hN : o.dst = none) (hgd : o.guard = none) {g : Nat} {e : TypeId} {old cs : Array Value}
    (hp : a.eval x = .pointer (some ⟨g, 0, none⟩)) (hv : a.eval v = .agg cs) (ha : At bl g e old cs bl') (hs : cs.size = old.size) (ht : (P.info? t).map (·.size) = some cs.size) (h1 : ∀ q ∈ cs.toList, q.oneCell' = true)
    (h : ∀ w1, Fr A w w1 bl' p → wpList P ops Q rest a w1) : wpList P ops Q (o :: rest) a W := by
  have hg := (H.blk _ ha.mem).1
  refine wpList_plain hgd fun K hK => ?_
  have hr := run_store_run (P := P) (w := W) (g := g) (o := 0) (e := e) (cur := old) t (.agg cs) cs.toList hg rfl (by rw [ht, Array.length_toList]) (by rw [Array.length_toList]; omega) h1
  unfold Oper.wp execOp
  simp only [ho, hp, hv, hr, Sem.run_bind, Sem.run_pure, Result.andThen_ok]
  show K (a.put o.dst undef) _
  rw [hN]
  refine hK _ _ (h _ (H.put ha ?_ ?_ ?_ ?_))
  · obtain ⟨cur', h3, h4, h5⟩ := setCells_row cs.toList 0 W old hg (by rw [Array.length_toList]; omega)
    have h6 : cur' = cs := by
      apply Array.ext'
      rw [h5, List.take_zero, List.nil_append, List.drop_eq_nil_of_le (by rw [Array.length_toList, Array.length_toList]; omega), List.append_nil]
    rw [h3, h6]
  · obtain ⟨s1, s2, s3, s4⟩ := setCells_same g cs.toList 0 W
    exact ⟨s1, s2, s3, by rw [s4]; exact Nat.le_refl _, fun k _ hk => setCells_far _ _ k (fun he => hk (by rw [he]))⟩
  · exact fun k hk => setCells_far _ _ k hk
  · exact (setCells_same g cs.toList 0 W).2.2.2
/-- A field (or several cells) of a variable is stored. -/
theorem fr_set (H : Fr A w W bl p) {t : TypeId} {x v : Operand} (ho : o.op = .store t x v) (hN : o.dst = none) (hgd : o.guard = none) {g j : Nat} {e : TypeId} {old cs : Array Value} {u : Value}
    (hp : a.eval x = .pointer (some ⟨g, j, none⟩)) (hv : a.eval v = u) (ha : At bl g e old cs bl') (hs : j + u.cells.size ≤ old.size) (hcs : cs.toList = old.toList.take j ++ u.cells.toList ++ old.toList.drop (j + u.cells.size)) (ht : (P.info? t).map (·.size) = some u.cells.size) (h1 : ∀ q ∈ u.cells.toList, q.oneCell' = true)
    (h : ∀ w1, Fr A w w1 bl' p → wpList P ops Q rest a w1) : wpList P ops Q (o :: rest) a W := by
  have hg := (H.blk _ ha.mem).1
  refine wpList_plain hgd fun K hK => ?_
  have hr := run_store_run (P := P) (w := W) (g := g) (o := j) (e := e) (cur := old) t u u.cells.toList hg rfl (by rw [ht, Array.length_toList]) (by rw [Array.length_toList]; omega) h1
  unfold Oper.wp execOp
  simp only [ho, hp, hv, hr, Sem.run_bind, Sem.run_pure, Result.andThen_ok]
  show K (a.put o.dst undef) _
  rw [hN]
  refine hK _ _ (h _ (H.put ha ?_ ?_ ?_ ?_))
  · obtain ⟨cur', h3, h4, h5⟩ := setCells_row u.cells.toList j W old hg (by rw [Array.length_toList]; omega)
    have h6 : cur' = cs := by
      apply Array.ext'
      rw [h5, hcs, Array.length_toList]
    rw [h3, h6]
  · obtain ⟨s1, s2, s3, s4⟩ := setCells_same g u.cells.toList j W
    exact ⟨s1, s2, s3, by rw [s4]; exact Nat.le_refl _, fun k _ hk => setCells_far _ _ k (fun he => hk (by rw [he]))⟩
  · exact fun k hk => setCells_far _ _ k hk
  · exact (setCells_same g u.cells.toList j W).2.2.2
/-- A whole variable is loaded. -/
theorem fr_load (H : Fr A w W bl p) {ty : TypeId} {x : Operand} (ho : o.op = .load ty x) (hgd : o.guard = none) {g : Nat} {e : TypeId} {cs : Array Value} {d : TypeDesc}
    (hx : a.eval x = .pointer (some ⟨g, 0, none⟩)) (ha : At bl g e cs cs bl') (hu : P.underlying ty = some d) (hd : (match d with | .struct _ | .array _ _ => true | _ => false) = true) (hi : (P.info? ty).map (·.size) = some cs.size)
    (h : wpList P ops Q rest (a.put o.dst (.agg cs)) W) : wpList P ops Q (o :: rest) a W :=
  wpList_load_row hgd ty x ho g hx e cs (0, 0) d (H.blk _ ha.mem).1 hu hd hi h
/-- One cell is loaded, wherever it lies. -/
theorem load_cell {ty : TypeId} {x : Operand} (ho : o.op = .load ty x) (hgd : o.guard = none) {ad : Addr} {d : TypeDesc} {v : Value}
    (hx : a.eval x = .pointer (some ad)) (hu : P.underlying ty = some d) (hd : (match d with | .struct _ | .array _ _ => true | _ => false) = false) (hc : W.cell? ad = some v)
    (h : wpList P ops Q rest (a.put o.dst v) W) : wpList P ops Q (o :: rest) a W := by
  refine wpList_plain hgd fun K hK => ?_
  have hagg : (isAgg ty).run P W = .ok false W := by
    unfold isAgg
    rw [Sem.run_bind, run_underlying hu W]
    cases d <;> simp_all
  have hlv : (loadVar ty ad).run P W = .ok v W := by simp [loadVar, Sem.run_bind, hagg, hc]
  unfold Oper.wp execOp
  simp only [ho, hx, Instr.loadAt, Instr.sureAddr, Sem.run_bind, Sem.run_pure, Result.andThen_ok, hlv]
  exact hK _ _ h
/-- A field of a variable is loaded. -/
theorem fr_get (H : Fr A w W bl p) {ty : TypeId} {x : Operand} (ho : o.op = .load ty x) (hgd : o.guard = none) {g j : Nat} {e : TypeId} {cs : Array Value} {d : TypeDesc} {v : Value}
    (hx : a.eval x = .pointer (some ⟨g, j, none⟩)) (ha : At bl g e cs cs bl') (hu : P.underlying ty = some d) (hd : (match d with | .struct _ | .array _ _ => true | _ => false) = false) (hc : cs[j]? = some v)
    (h : wpList P ops Q rest (a.put o.dst v) W) : wpList P ops Q (o :: rest) a W :=
  load_cell ho hgd hx hu hd ((H.cell ha j).trans hc) h
/-- A row of cells is loaded as a value, wherever it lies. -/
theorem load_cells {ty : TypeId} {x : Operand} (ho : o.op = .load ty x) (hgd : o.guard = none) {ad : Addr} {d : TypeDesc} {cs : List Value}
    (hx : a.eval x = .pointer (some ad)) (hu : P.underlying ty = some d) (hd : (match d with | .struct _ | .array _ _ => true | _ => false) = true) (hi : (P.info? ty).map (·.size) = some cs.length) (hc : ∀ j u, cs[j]? = some u → W.cell? (ad.add j) = some u)
    (h : wpList P ops Q rest (a.put o.dst (.agg cs.toArray)) W) : wpList P ops Q (o :: rest) a W := by
  refine wpList_plain hgd fun K hK => ?_
  have hagg : (isAgg ty).run P W = .ok true W := by
    unfold isAgg
    rw [Sem.run_bind, run_underlying hu W]
    cases d <;> simp_all
  obtain ⟨i, hq, hs⟩ := Option.map_eq_some_iff.1 hi
  have hl := run_loadCells_list (P := P) W ad cs hc
  have hlv : (loadVar ty ad).run P W = .ok (.agg cs.toArray) W := by simp [loadVar, Sem.run_bind, hagg, sizeOf, typeInfo, hq, hs, hl]
  unfold Oper.wp execOp
  simp only [ho, hx, Instr.loadAt, Instr.sureAddr, Sem.run_bind, Sem.run_pure, Result.andThen_ok, hlv]
  exact hK _ _ h
/-- A struct inside a variable is loaded. -/
theorem fr_sub (H : Fr A w W bl p) {ty : TypeId} {x : Operand} (ho : o.op = .load ty x) (hgd : o.guard = none) {g j n : Nat} {e : TypeId} {cs : Array Value} {d : TypeDesc} {vs : List Value}
    (hx : a.eval x = .pointer (some ⟨g, j, none⟩)) (ha : At bl g e cs cs bl') (hu : P.underlying ty = some d) (hd : (match d with | .struct _ | .array _ _ => true | _ => false) = true) (hi : (P.info? ty).map (·.size) = some n) (hv : (cs.toList.drop j).take n = vs) (hn : n = vs.length)
    (h : wpList P ops Q rest (a.put o.dst (.agg vs.toArray)) W) : wpList P ops Q (o :: rest) a W := by
  refine load_cells ho hgd hx hu hd (hn ▸ hi) (fun i u hu => ?_) h
  have hi : i < n := by rw [hn]; exact (List.getElem?_eq_some_iff.1 hu).1
  rw [← hv, List.getElem?_take, if_pos hi, List.getElem?_drop] at hu
  have hc := H.cell ha (j + i)
  rw [show ((⟨g, j, none⟩ : Addr).add i) = ⟨g, j + i, none⟩ by
    unfold Addr.add
    split
    · rename_i h0; rw [h0]; rfl
    · rfl, hc]
  simpa using hu
/-- A struct of two cells inside a variable. -/
theorem fr_sub2 (H : Fr A w W bl p) {ty : TypeId} {x : Operand} (ho : o.op = .load ty x) (hgd : o.guard = none) {g j : Nat} {e : TypeId} {cs : Array Value} {d : TypeDesc} {v0 v1 : Value}
    (hx : a.eval x = .pointer (some ⟨g, j, none⟩)) (ha : At bl g e cs cs bl') (hu : P.underlying ty = some d) (hd : (match d with | .struct _ | .array _ _ => true | _ => false) = true) (hi : (P.info? ty).map (·.size) = some 2) (h0 : cs[j]? = some v0) (h1 : cs[j + 1]? = some v1)
    (h : wpList P ops Q rest (a.put o.dst (.agg #[v0, v1])) W) : wpList P ops Q (o :: rest) a W := by
  refine load_cells (cs := [v0, v1]) ho hgd hx hu hd hi (fun i u hu => ?_) h
  have e0 : ∀ i, ((⟨g, j, none⟩ : Addr).add i) = ⟨g, j + i, none⟩ := fun i => by
    unfold Addr.add
    split
    · rename_i h0; rw [h0]; rfl
    · rfl
  rw [e0, H.cell ha (j + i)]
  match i, hu with
  | 0, hu => rw [Nat.add_zero, h0]; exact hu
  | 1, hu => rw [h1]; exact hu
end
/-! regions that draw their order: one walk in the order of the text, in the class of all worlds in which the frame holds -/
section
variable {P : Program} {ops : Array Oper} {rest : List Oper} {o : Oper} {a : Act} {Q : Act → Prop} {A : Nat → Prop} {w : World} {bl bl' : List (Nat × TypeId × Array Value)} {p : World → Prop}
def Frs (A : Nat → Prop) (w : World) (bl : List (Nat × TypeId × Array Value)) (p : World → Prop) : World → Prop := fun W => Fr A w W bl p
theorem fr_region {id : Nat} {Q : Exit → Act → World → Prop} {W : World} {l : List Oper} (H : Fr A w W bl p) (hm : P.follows .mixedOrders = true) (hB : Region.lexB .any l.toArray = true)
    (h : wpQuiet P l.toArray (Frs A w bl p) (fun a' => ∀ w', Fr A w w' bl p → Q .normal a' w') l a) : (Code.region id l.toArray true).wp P Q a W :=
  wp_region_quiet (C := Frs A w bl p) hm hB (H.drewN 1) h
theorem qg_load {C : World → Prop} {ty : TypeId} {x : Operand} (_ho : o.op = .load ty x) (h : wpQuiet P ops C Q (o :: rest) a) : wpQuiet P ops C Q (o :: rest) a := h
theorem qg_move {C : World → Prop} {x : Operand} (_ho : o.op = .move x) (h : wpQuiet P ops C Q (o :: rest) a) : wpQuiet P ops C Q (o :: rest) a := h
theorem qg_assign {C : World → Prop} {x : Operand} (_ho : o.op = .assign x) (h : wpQuiet P ops C Q (o :: rest) a) : wpQuiet P ops C Q (o :: rest) a := h
theorem qg_call {C : World → Prop} {f : FuncId} {as : Array Operand} {ts : Array TypeId} (_ho : o.op = .call { callee := .value (.func f), args := as, argTypes := ts }) (h : wpQuiet P ops C Q (o :: rest) a) : wpQuiet P ops C Q (o :: rest) a := h
theorem q_load (hw : Region.wanted o (yielded ops a.tmps) = true) {ty : TypeId} {x : Operand} (ho : o.op = .load ty x) {g : Nat} {e : TypeId} {cs : Array Value} {d : TypeDesc}
    (hx : a.eval x = .pointer (some ⟨g, 0, none⟩)) (ha : At bl g e cs cs bl') (hu : P.underlying ty = some d) (hd : (match d with | .struct _ | .array _ _ => true | _ => false) = true) (hi : (P.info? ty).map (·.size) = some cs.size)
    (h : wpQuiet P ops (Frs A w bl p) Q rest (a.put o.dst (.agg cs))) : wpQuiet P ops (Frs A w bl p) Q (o :: rest) a := by
  refine wpQuiet_step fun K hK => ?_
  rw [if_pos hw]
  refine ⟨.agg cs, fun W HW => ?_, hK _ h⟩
  unfold Oper.quietAt execOp
  simp only [ho, hx, Instr.loadAt, Instr.sureAddr, Sem.run_bind, Sem.run_pure, Result.andThen_ok, run_loadVar_row W g e ty cs (0, 0) d (Fr.blk HW _ ha.mem).1 hu hd hi]
  exact ⟨rfl, rfl⟩
theorem q_get (hw : Region.wanted o (yielded ops a.tmps) = true) {ty : TypeId} {x : Operand} (ho : o.op = .load ty x) {g j : Nat} {e : TypeId} {cs : Array Value} {d : TypeDesc} {v : Value}
    (hx : a.eval x = .pointer (some ⟨g, j, none⟩)) (ha : At bl g e cs cs bl') (hu : P.underlying ty = some d) (hd : (match d with | .struct _ | .array _ _ => true | _ => false) = false) (hc : cs[j]? = some v)
    (h : wpQuiet P ops (Frs A w bl p) Q rest (a.put o.dst v)) : wpQuiet P ops (Frs A w bl p) Q (o :: rest) a := by
  refine wpQuiet_step fun K hK => ?_
  rw [if_pos hw]
  refine ⟨v, fun W HW => ?_, hK _ h⟩
  have hcc : W.cell? ⟨g, j, none⟩ = some v := (Fr.cell HW ha j).trans hc
  have hagg : (isAgg ty).run P W = .ok false W := by
    unfold isAgg
    rw [Sem.run_bind, run_underlying hu W]
    cases d <;> simp_all
  have hlv : (loadVar ty ⟨g, j, none⟩).run P W = .ok v W := by simp [loadVar, Sem.run_bind, hagg, hcc]
  unfold Oper.quietAt execOp
  simp only [ho, hx, Instr.loadAt, Instr.sureAddr, Sem.run_bind, Sem.run_pure, Result.andThen_ok, hlv]
  exact ⟨rfl, rfl⟩
theorem q_sub2 (hw : Region.wanted o (yielded ops a.tmps) = true) {ty : TypeId} {x : Operand} (ho : o.op = .load ty x) {g j : Nat} {e : TypeId} {cs : Array Value} {d : TypeDesc} {v0 v1 : Value}
    (hx : a.eval x = .pointer (some ⟨g, j, none⟩)) (ha : At bl g e cs cs bl') (hu : P.underlying ty = some d) (hd : (match d with | .struct _ | .array _ _ => true | _ => false) = true) (hi : (P.info? ty).map (·.size) = some 2) (h0 : cs[j]? = some v0) (h1 : cs[j + 1]? = some v1)
    (h : wpQuiet P ops (Frs A w bl p) Q rest (a.put o.dst (.agg #[v0, v1]))) : wpQuiet P ops (Frs A w bl p) Q (o :: rest) a := by
  refine wpQuiet_step fun K hK => ?_
  rw [if_pos hw]
  refine ⟨.agg #[v0, v1], fun W HW => ?_, hK _ h⟩
  have e0 : ∀ i, ((⟨g, j, none⟩ : Addr).add i) = ⟨g, j + i, none⟩ := fun i => by
    unfold Addr.add
    split
    · rename_i h0; rw [h0]; rfl
    · rfl
  have hl := run_loadCells_list (P := P) W ⟨g, j, none⟩ [v0, v1] (fun i u hu => by
    rw [e0, Fr.cell HW ha (j + i)]
    match i, hu with
    | 0, hu => rw [Nat.add_zero, h0]; exact hu
    | 1, hu => rw [h1]; exact hu)
  have hagg : (isAgg ty).run P W = .ok true W := by
    unfold isAgg
    rw [Sem.run_bind, run_underlying hu W]
    cases d <;> simp_all
  obtain ⟨i, hq, hs⟩ := Option.map_eq_some_iff.1 hi
  have hlv : (loadVar ty ⟨g, j, none⟩).run P W = .ok (.agg #[v0, v1]) W := by
    simp only [List.length_cons, List.length_nil] at hl
    simp [loadVar, Sem.run_bind, hagg, sizeOf, typeInfo, hq, hs, hl]
  unfold Oper.quietAt execOp
  simp only [ho, hx, Instr.loadAt, Instr.sureAddr, Sem.run_bind, Sem.run_pure, Result.andThen_ok, hlv]
  exact ⟨rfl, rfl⟩
theorem q_cells (hw : Region.wanted o (yielded ops a.tmps) = true) {ty : TypeId} {x : Operand} (ho : o.op = .load ty x) {ad : Addr} {d : TypeDesc} {cs : List Value}
    (hx : a.eval x = .pointer (some ad)) (hu : P.underlying ty = some d) (hd : (match d with | .struct _ | .array _ _ => true | _ => false) = true) (hi : (P.info? ty).map (·.size) = some cs.length) (hc : ∀ W, p W → ∀ j u, cs[j]? = some u → W.cell? (ad.add j) = some u)
    (h : wpQuiet P ops (Frs A w bl p) Q rest (a.put o.dst (.agg cs.toArray))) : wpQuiet P ops (Frs A w bl p) Q (o :: rest) a := by
  refine wpQuiet_step fun K hK => ?_
  rw [if_pos hw]
  refine ⟨.agg cs.toArray, fun W HW => ?_, hK _ h⟩
  have hl := run_loadCells_list (P := P) W ad cs (hc W (Fr.now HW))
  have hagg : (isAgg ty).run P W = .ok true W := by
    unfold isAgg
    rw [Sem.run_bind, run_underlying hu W]
    cases d <;> simp_all
  obtain ⟨i, hq, hs⟩ := Option.map_eq_some_iff.1 hi
  have hlv : (loadVar ty ad).run P W = .ok (.agg cs.toArray) W := by simp [loadVar, Sem.run_bind, hagg, sizeOf, typeInfo, hq, hs, hl]
  unfold Oper.quietAt execOp
  simp only [ho, hx, Instr.loadAt, Instr.sureAddr, Sem.run_bind, Sem.run_pure, Result.andThen_ok, hlv]
  exact ⟨rfl, rfl⟩
theorem q_call (hw : Region.wanted o (yielded ops a.tmps) = true) {f : FuncId} {args : Array Value} {v : Value} (hrun : ∀ W, (execOp a.eval o).run P W = .ok (.enter f args) W)
    (hc : ∀ W, Fr A w W bl p → Calls P f args W fun e w' => e = .returned v ∧ Below W.heap.size W w')
    (h : wpQuiet P ops (Frs A w bl p) Q rest (a.put o.dst v)) : wpQuiet P ops (Frs A w bl p) Q (o :: rest) a := by
  refine wpQuiet_step fun K hK => ?_
  rw [if_pos hw]
  refine ⟨v, fun W HW => ?_, hK _ h⟩
  unfold Oper.quietAt
  rw [hrun W]
  exact ⟨rfl, (hc W HW).mono fun e w' ⟨h1, h2⟩ => ⟨h1, Fr.call HW h2⟩⟩
theorem q_pure (hw : Region.wanted o (yielded ops a.tmps) = true) {v : Value} (hrun : ∀ W, (execOp a.eval o).run P W = .ok (.value v) W)
    (h : wpQuiet P ops (Frs A w bl p) Q rest (a.put o.dst v)) : wpQuiet P ops (Frs A w bl p) Q (o :: rest) a := by
  refine wpQuiet_step fun K hK => ?_
  rw [if_pos hw]
  refine ⟨v, fun W HW => ?_, hK _ h⟩
  unfold Oper.quietAt
  rw [hrun W]
  exact ⟨rfl, rfl⟩
theorem q_pureK (hw : Region.wanted o (yielded ops a.tmps) = true) {v : Value} (hrun : ∀ W (K : Result Next → Prop), Hid (K (.ok (.value v) W)) → K ((execOp a.eval o).run P W))
    (h : wpQuiet P ops (Frs A w bl p) Q rest (a.put o.dst v)) : wpQuiet P ops (Frs A w bl p) Q (o :: rest) a :=
  q_pure hw (fun W => hrun W (fun r => r = .ok (.value v) W) (Lib.hid rfl)) h
theorem q_move (hw : Region.wanted o (yielded ops a.tmps) = true) {x : Operand} {v : Value} (ho : o.op = .move x) (hx : a.eval x = v) (h : wpQuiet P ops (Frs A w bl p) Q rest (a.put o.dst v)) : wpQuiet P ops (Frs A w bl p) Q (o :: rest) a :=
  q_pure hw (fun W => by rw [BigFrame.run_move x ho, hx]) h
theorem q_assign (hw : Region.wanted o (yielded ops a.tmps) = true) {x : Operand} {v : Value} (ho : o.op = .assign x) (hx : a.eval x = v) (h : wpQuiet P ops (Frs A w bl p) Q rest (a.put o.dst v)) : wpQuiet P ops (Frs A w bl p) Q (o :: rest) a :=
  q_pure hw (fun W => by rw [BigFrame.run_assign x ho, hx]) h
theorem q_skip (hw : Region.wanted o (yielded ops a.tmps) = false) (h : wpQuiet P ops (Frs A w bl p) Q rest (a.put o.dst undef)) : wpQuiet P ops (Frs A w bl p) Q (o :: rest) a := by
  refine wpQuiet_step fun K hK => ?_
  rw [if_neg (by rw [hw]; simp)]
  exact hK _ h
theorem q_end {Q : Act → Prop} (h : Q a) : wpQuiet P ops (Frs A w bl p) Q [] a := h
end
end Go.Proofs.YtcopnddmkmgihaaEv
