/- Texts Kr, Kw, Pl, Ga, Gb, Gc2, in one file, without what is not needed here. -/
import Derived.Deep.Quiet
import Derived.Barred
import Derived.Test.YtbmfgcekglgliaaGreatProg
import Derived.Test.YtbmfgcekglgliaaGreatZGateKeeps1
namespace Go.Proofs.YtbmfgcekglgliaaGreatKr
open Go.RowKit Go.Proofs.YtbmfgcekglgliaaGreatW.PrintWords Go.Proofs.YtbmfgcekglgliaaGreatW.PrintLast Go.Proofs.YtbmfgcekglgliaaGreatW.PrintMore
set_option linter.unusedVariables false
inductive Shp where
  | ptr
  | sl (n c : Nat)
def Shp.val : Shp → Nat → Value
  | .ptr, x => .pointer (some ⟨x, 0, none⟩)
  | .sl n c, x => .slice (some ⟨x, 0, none⟩) n c
theorem Shp.val_inj {s s' : Shp} {x : Nat} (h : s.val x = s'.val x) : s = s' := by
  cases s <;> cases s' <;> simp [Shp.val] at h ⊢
  exact h
structure Facts where
  fro : List (Nat × Nat × Obj)
  var : List (Nat × Nat × TypeId × Array Value)
  log : List (Nat × Nat × Nat)
def setR (j : Nat) (us : List Value) (cs : Array Value) : Array Value := cs.mapIdx fun i v => if j ≤ i ∧ i < j + us.length then us.getD (i - j) v else v
theorem setR_size (j : Nat) (us : List Value) (cs : Array Value) : (setR j us cs).size = cs.size := by simp [setR]
def apartR (a b : Nat × Nat × Nat) : Prop := a.1 = b.1 → a.2.1 + a.2.2 ≤ b.2.1 ∨ b.2.1 + b.2.2 ≤ a.2.1
theorem apartR.symm {a b : Nat × Nat × Nat} (h : apartR a b) : apartR b a := fun e => (h e.symm).symm
theorem setR_comm {j j' : Nat} {us us' : List Value} (h : j + us.length ≤ j' ∨ j' + us'.length ≤ j) (cs : Array Value) : setR j us (setR j' us' cs) = setR j' us' (setR j us cs) := by
  unfold setR
  apply Array.ext_getElem?
  intro i
  simp only [Array.getElem?_mapIdx, Option.map_map]
  congr 1
  funext v
  simp only [Function.comp]
  by_cases h1 : j ≤ i ∧ i < j + us.length
  · have h2 : ¬ (j' ≤ i ∧ i < j' + us'.length) := by omega
    rw [if_pos h1, if_neg h2, if_neg h2, if_pos h1]
  · rw [if_neg h1, if_neg h1]
def upd (g j : Nat) (us : List Value) (l : List (Nat × Nat × TypeId × Array Value)) : List (Nat × Nat × TypeId × Array Value) := l.map fun e => if e.2.1 = g then (e.1, e.2.1, e.2.2.1, setR j us e.2.2.2) else e
theorem upd_comm {g g' j j' : Nat} {us us' : List Value} (h : g = g' → j + us.length ≤ j' ∨ j' + us'.length ≤ j) (l : List (Nat × Nat × TypeId × Array Value)) : upd g j us (upd g' j' us' l) = upd g' j' us' (upd g j us l) := by
  unfold upd
  rw [List.map_map, List.map_map]
  refine List.map_congr_left fun e _ => ?_
  simp only [Function.comp]
  by_cases h1 : e.2.1 = g'
  · by_cases h2 : e.2.1 = g
    · have e1 : g = g' := h2.symm.trans h1
      rw [if_pos h1, if_pos h2]
      try dsimp only
      rw [if_pos h2, if_pos h1, setR_comm (h e1)]
    · rw [if_pos h1, if_neg h2]
      try dsimp only
      rw [if_neg h2, if_pos h1]
  · by_cases h2 : e.2.1 = g
    · rw [if_neg h1, if_pos h2]
      try dsimp only
      rw [if_neg h1]
    · rw [if_neg h1, if_neg h2, if_neg h1]
theorem upd_mem {g j : Nat} {us : List Value} {l : List (Nat × Nat × TypeId × Array Value)} {e : Nat × Nat × TypeId × Array Value} (h : e ∈ upd g j us l) : ∃ e0, e0 ∈ l ∧ e0.1 = e.1 ∧ e0.2.1 = e.2.1 ∧ e0.2.2.1 = e.2.2.1 ∧ e0.2.2.2.size = e.2.2.2.size ∧ (e.2.1 = g → e.2.2.2 = setR j us e0.2.2.2) ∧ (e.2.1 ≠ g → e = e0) := by
  unfold upd at h
  obtain ⟨e0, h0, rfl⟩ := List.mem_map.1 h
  by_cases hg : e0.2.1 = g
  · refine ⟨e0, h0, ?_⟩
    rw [if_pos hg]
    exact ⟨rfl, rfl, rfl, (setR_size _ _ _).symm, fun _ => rfl, fun hn => absurd hg hn⟩
  · refine ⟨e0, h0, ?_⟩
    rw [if_neg hg]
    exact ⟨rfl, rfl, rfl, rfl, fun hn => absurd hn hg, fun _ => rfl⟩
theorem mem_upd {g j : Nat} {us : List Value} {l : List (Nat × Nat × TypeId × Array Value)} {e : Nat × Nat × TypeId × Array Value} (h : e ∈ l) : ∃ e1, e1 ∈ upd g j us l ∧ e1.1 = e.1 ∧ e1.2.1 = e.2.1 ∧ e1.2.2.1 = e.2.2.1 ∧ e1.2.2.2.size = e.2.2.2.size := by
  refine ⟨_, List.mem_map.2 ⟨e, h, rfl⟩, ?_⟩
  by_cases hg : e.2.1 = g
  · rw [if_pos hg]; exact ⟨rfl, rfl, rfl, setR_size _ _ _⟩
  · rw [if_neg hg]; exact ⟨rfl, rfl, rfl, rfl⟩
theorem upd_blocks (g j : Nat) (us : List Value) (l : List (Nat × Nat × TypeId × Array Value)) : (upd g j us l).map (·.2.1) = l.map (·.2.1) := by
  unfold upd
  rw [List.map_map]
  refine List.map_congr_left fun e _ => ?_
  simp only [Function.comp]
  split <;> rfl
def depB (ops : Array Oper) (k j : Nat) : Bool := ((ops[k]?).map fun o => o.after.any fun e => Region.binds .any e && e.on == j).getD false
def depV (ops : Array Oper) (k j : Nat) : Bool := depB ops k j || j == ops.size
def shp (W : World) (e : Nat × Nat × TypeId × Array Value) : Prop := ∃ cur, W.heap[e.2.1]? = some (.cells cur e.2.2.1 (0, 0)) ∧ cur.size = e.2.2.2.size
def holdsS (F : Facts) (W : World) : Prop := (∀ p, p ∈ F.fro → W.heap[p.2.1]? = some p.2.2) ∧ ∀ e, e ∈ F.var → shp W e
def holds (F : Facts) (W : World) : Prop := (∀ p, p ∈ F.fro → W.heap[p.2.1]? = some p.2.2) ∧ ∀ e, e ∈ F.var → W.heap[e.2.1]? = some (.cells e.2.2.2 e.2.2.1 (0, 0))
theorem holds.s {F : Facts} {W : World} (h : holds F W) : holdsS F W := ⟨h.1, fun e he => ⟨_, h.2 e he, rfl⟩⟩
def depH (ops : Array Oper) (k : Nat) (F : Facts) (W : World) : Prop := (∀ p, p ∈ F.fro → depB ops k p.1 = true → W.heap[p.2.1]? = some p.2.2) ∧ ∀ e, e ∈ F.var → depV ops k e.1 = true → shp W e
def Sep (F : Facts) : Prop := (∀ p, p ∈ F.fro → ∀ e, e ∈ F.var → p.2.1 ≠ e.2.1) ∧ (F.var.map (·.2.1)).Nodup
inductive Res where
  | val (v : Value)
  | new (s : Shp) (ob : Obj)
  | newv (t : TypeId) (cs : Array Value)
  | put (g j : Nat) (us : List Value)
def Res.out : Res → Nat → Value
  | .val v, _ => v
  | .new s _, x => s.val x
  | .newv _ _, x => .pointer (some ⟨x, 0, none⟩)
  | .put _ _ _, _ => undef
def Res.facts : Res → Nat → Nat → Facts → Facts
  | .val _, _, _, F => F
  | .new _ ob, k, x, F => { F with fro := (k, x, ob) :: F.fro }
  | .newv t cs, k, x, F => { F with var := (k, x, t, cs) :: F.var }
  | .put g j us, _, _, F => { F with var := upd g j us F.var, log := (g, j, us.length) :: F.log }
def Res.ok (ops : Array Oper) (k : Nat) (F : Facts) : Res → Prop
  | .put g j us => (∃ e, e ∈ F.var ∧ e.2.1 = g ∧ depV ops k e.1 = true ∧ j + us.length ≤ e.2.2.2.size) ∧ ∀ q, q ∈ F.log → apartR q (g, j, us.length)
  | _ => True
def kindO (o : Oper) : Nat := match o.op with | .store .. => 1 | .alloc .. => 2 | .box .. => 2 | _ => 0
def dUpon (P : Program) (W : World) (v : Value) : Result Next → Prop
  | .ok (.value u) w' => w' = W ∧ u = v
  | .ok .skip w' => w' = W ∧ v = undef
  | .ok (.enter f args) w' => w' = W ∧ P.inits.idxOf? f = none ∧ Calls P f args W (fun e w'' => e = .returned v ∧ Below W.heap.size W w'')
  | _ => False
def pUpon (W1 : World) : Result Next → Prop
  | .ok (.value u) w' => w' = W1 ∧ u = undef
  | .ok .skip w' => w' = W1
  | _ => False
def Res.yields (P : Program) (o : Oper) (a : Act) (W : World) : Res → Prop
  | .val v => kindO o ≠ 1 ∧ dUpon P W v ((execOp a.eval o).run P W)
  | .new s ob => kindO o = 0 ∧ (execOp a.eval o).run P W = .ok (.value (s.val W.heap.size)) (W.alloc ob)
  | .newv t cs => kindO o = 2 ∧ (execOp a.eval o).run P W = .ok (.value (.pointer (some ⟨W.heap.size, 0, none⟩))) (W.alloc (.cells cs t (0, 0)))
  | .put g j us => (∃ t x v, o.op = .store t x v ∧ a.eval x = .pointer (some ⟨g, j, none⟩) ∧ (a.eval v).cells.toList = us) ∧ pUpon (W.setCells g j us) ((execOp a.eval o).run P W)
theorem returned_agree {P : Program} {f : FuncId} {args : Array Value} {w : World} {v v' : Value} {R R' : World → Prop}
    (h : Calls P f args w fun e w' => e = .returned v ∧ R w') (h' : Calls P f args w fun e w' => e = .returned v' ∧ R' w') (hi : P.inits.idxOf? f = none) : v = v' := by
  obtain ⟨n, u, w1, e1, r1⟩ := Calls.done (R := fun u _ => u = v) (h.mono fun e w' ⟨he, _⟩ => by subst he; rfl) hi
  obtain ⟨m, u', w2, e2, r2⟩ := Calls.done (R := fun u _ => u = v') (h'.mono fun e w' ⟨he, _⟩ => by subst he; rfl) hi
  have e3 := runN_same_end e1 e2
  injection e3 with e4
  rw [← r1, ← r2, e4]
theorem alloc_ne (W : World) (ob : Obj) : W.alloc ob ≠ W := fun e => by
  have e2 := congrArg (fun w => w.heap.size) e
  simp at e2
theorem kind_store {o : Oper} {t : TypeId} {x v : Operand} (h : o.op = .store t x v) : kindO o = 1 := by unfold kindO; rw [h]
theorem Res.det {P : Program} {o : Oper} {a : Act} {W : World} {r r' : Res} (h : r.yields P o a W) (h' : r'.yields P o a W) : r = r' := by
  cases r with
  | val v =>
    obtain ⟨hk, h⟩ := h
    cases r' with
    | val v' =>
      obtain ⟨_, h'⟩ := h'
      generalize (execOp a.eval o).run P W = q at h h'
      cases q with
      | ok n w' =>
        cases n <;> simp only [dUpon] at h h'
        case value u => rw [← h.2, ← h'.2]
        case skip => rw [h.2, h'.2]
        case enter f args => rw [returned_agree h.2.2 h'.2.2 h.2.1]
      | halt x w' => simp only [dUpon] at h
    | new s ob =>
      obtain ⟨_, h'⟩ := h'
      rw [h'] at h
      exact absurd h.1 (alloc_ne W ob)
    | newv t cs =>
      obtain ⟨_, h'⟩ := h'
      rw [h'] at h
      exact absurd h.1 (alloc_ne W _)
    | put g j us =>
      obtain ⟨⟨t, x, v, e, _⟩, _⟩ := h'
      exact absurd (kind_store e) hk
  | new s ob =>
    obtain ⟨hk, h⟩ := h
    cases r' with
    | val v' =>
      obtain ⟨_, h'⟩ := h'
      rw [h] at h'
      exact absurd h'.1 (alloc_ne W ob)
    | new s' ob' =>
      obtain ⟨_, h'⟩ := h'
      rw [h] at h'
      injection h' with e1 e2
      injection e1 with e1
      have e3 := Shp.val_inj e1
      have e4 : W.heap.push ob = W.heap.push ob' := congrArg World.heap e2
      have e5 := (Array.push_eq_push.1 e4).1
      rw [e3, e5]
    | newv t cs => rw [h'.1] at hk; cases hk
    | put g j us =>
      obtain ⟨⟨t, x, v, e, _⟩, _⟩ := h'
      rw [kind_store e] at hk
      cases hk
  | newv t cs =>
    obtain ⟨hk, h⟩ := h
    cases r' with
    | val v' =>
      obtain ⟨_, h'⟩ := h'
      rw [h] at h'
      exact absurd h'.1 (alloc_ne W _)
    | new s' ob' => rw [h'.1] at hk; cases hk
    | newv t' cs' =>
      obtain ⟨_, h'⟩ := h'
      rw [h] at h'
      injection h' with e1 e2
      have e4 : W.heap.push (Obj.cells cs t (0, 0)) = W.heap.push (Obj.cells cs' t' (0, 0)) := congrArg World.heap e2
      have e5 := (Array.push_eq_push.1 e4).1
      injection e5 with e6 e7
      rw [e6, e7]
    | put g j us =>
      obtain ⟨⟨t, x, v, e, _⟩, _⟩ := h'
      rw [kind_store e] at hk
      cases hk
  | put g j us =>
    obtain ⟨⟨t, x, v, e, ex, ev⟩, _⟩ := h
    cases r' with
    | val v' => exact absurd (kind_store e) h'.1
    | new s' ob' => have h2 := h'.1; rw [kind_store e] at h2; cases h2
    | newv t' cs' => have h2 := h'.1; rw [kind_store e] at h2; cases h2
    | put g' j' us' =>
      obtain ⟨⟨t', x', v', e', ex', ev'⟩, _⟩ := h'
      rw [e] at e'
      injection e' with _ e1 e2
      subst e1 e2
      rw [ex] at ex'
      injection ex' with ex'
      injection ex' with ex'
      injection ex' with e1 e2
      rw [e1, e2, ← ev, ev']
section
variable {P : Program} {ops : Array Oper} {C : World → Prop} {V : Nat → Prop} {Q : Act → Facts → Prop}
def Real (C : World → Prop) (F : Facts) : Prop := Sep F ∧ ∃ W, C W ∧ holdsS F W
def Yields (P : Program) (ops : Array Oper) (C : World → Prop) (k : Nat) (o : Oper) (r : Res) (a : Act) (F : Facts) : Prop :=
  (Region.wanted o (yielded ops a.tmps) = true ∧ r.ok ops k F ∧ ∀ W, C W → depH ops k F W → r.yields P o a W) ∨ (Region.wanted o (yielded ops a.tmps) = false ∧ r = .val undef)
def stepO (P : Program) (ops : Array Oper) (C : World → Prop) (i : Nat) (K : Act → Facts → Prop) (a : Act) (F : Facts) : Prop :=
  match ops[i]? with
  | none => K a F
  | some o => ∃ r, Yields P ops C i o r a F ∧ ∀ x, Real C (r.facts i x F) → K (a.put o.dst (r.out x)) (r.facts i x F)
def wpAnyO (P : Program) (ops : Array Oper) (C : World → Prop) (Q : Act → Facts → Prop) : Nat → Array Bool → Act → Facts → Prop
  | 0, listed, a, F => Region.ready .any ops listed = [] ∧ Q a F
  | fuel + 1, listed, a, F => (Region.ready .any ops listed = [] → Q a F) ∧ ∀ i ∈ Region.ready .any ops listed, stepO P ops C i (wpAnyO P ops C Q fuel (listed.setIfInBounds i true)) a F
def wpO (P : Program) (ops : Array Oper) (C : World → Prop) (Q : Act → Facts → Prop) : Nat → List Oper → Act → Facts → Prop
  | _, [], a, F => Q a F
  | k, o :: rest, a, F => ∃ r, Yields P ops C k o r a F ∧ ∀ x, Real C (r.facts k x F) → wpO P ops C Q (k + 1) rest (a.put o.dst (r.out x)) (r.facts k x F)
structure Same (F G : Facts) : Prop where
  fro : ∀ p, p ∈ F.fro ↔ p ∈ G.fro
  var : F.var.Perm G.var
  log : ∀ p, p ∈ F.log ↔ p ∈ G.log
theorem Same.refl (F : Facts) : Same F F := ⟨fun _ => Iff.rfl, List.Perm.refl _, fun _ => Iff.rfl⟩
theorem Same.symm {F G : Facts} (h : Same F G) : Same G F := ⟨fun p => (h.fro p).symm, h.var.symm, fun p => (h.log p).symm⟩
theorem Same.facts {F G : Facts} (h : Same F G) (r : Res) (k x : Nat) : Same (r.facts k x F) (r.facts k x G) := by
  cases r with
  | val v => exact h
  | new s ob => exact ⟨fun p => by simp only [Res.facts, List.mem_cons, h.fro], h.var, h.log⟩
  | newv t cs => exact ⟨h.fro, h.var.cons _, h.log⟩
  | put g j us => exact ⟨h.fro, h.var.map _, fun p => by simp only [Res.facts, List.mem_cons, h.log]⟩
theorem Same.sep {F G : Facts} (h : Same F G) (g : Sep F) : Sep G := ⟨fun p hp e he => g.1 p ((h.fro p).2 hp) e (h.var.mem_iff.2 he), (h.var.map _).nodup_iff.1 g.2⟩
theorem Same.holdsS {F G : Facts} {W : World} (h : Same F G) (g : holdsS F W) : holdsS G W := ⟨fun p hp => g.1 p ((h.fro p).2 hp), fun e he => g.2 e (h.var.mem_iff.2 he)⟩
theorem Same.holds {F G : Facts} {W : World} (h : Same F G) (g : holds F W) : holds G W := ⟨fun p hp => g.1 p ((h.fro p).2 hp), fun e he => g.2 e (h.var.mem_iff.2 he)⟩
theorem Same.depH {F G : Facts} {W : World} {k : Nat} (h : Same F G) (g : depH ops k F W) : depH ops k G W := ⟨fun p hp => g.1 p ((h.fro p).2 hp), fun e he => g.2 e (h.var.mem_iff.2 he)⟩
theorem Same.ok {F G : Facts} {k : Nat} {r : Res} (h : Same F G) (g : r.ok ops k F) : r.ok ops k G := by
  cases r with
  | put b j us => exact ⟨g.1.imp fun e ⟨h1, h2⟩ => ⟨h.var.mem_iff.1 h1, h2⟩, fun q hq => g.2 q ((h.log q).2 hq)⟩
  | _ => exact g
theorem Same.real {F G : Facts} (h : Same F G) (g : Real C F) : Real C G := ⟨h.sep g.1, g.2.imp fun _ ⟨h1, h2⟩ => ⟨h1, h.holdsS h2⟩⟩
theorem facts_swap {k k' x x' : Nat} {r r' : Res} {F : Facts} (hs : Sep (r.facts k x (r'.facts k' x' F))) (ho : r.ok ops k F) (ho' : r'.ok ops k' F) (ha : ∀ g j us g' j' us', r = .put g j us → r' = .put g' j' us' → apartR (g, j, us.length) (g', j', us'.length)) : Same (r.facts k x (r'.facts k' x' F)) (r'.facts k' x' (r.facts k x F)) := by
  cases r with
  | val v => exact Same.refl _
  | new s ob =>
    cases r' with
    | val v' => exact Same.refl _
    | new s' ob' => exact ⟨fun p => by simp only [Res.facts, List.mem_cons]; exact or_left_comm, List.Perm.refl _, fun _ => Iff.rfl⟩
    | newv t' cs' => exact Same.refl _
    | put g' j' us' => exact Same.refl _
  | newv t cs =>
    cases r' with
    | val v' => exact Same.refl _
    | new s' ob' => exact Same.refl _
    | newv t' cs' => exact ⟨fun _ => Iff.rfl, List.Perm.swap _ _ _, fun _ => Iff.rfl⟩
    | put g' j' us' =>
      obtain ⟨e, he, hg, _⟩ := ho'.1
      have hx : x ≠ g' := fun q => by
        have h1 := hs.2
        simp only [Res.facts, List.map_cons, List.nodup_cons] at h1
        refine h1.1 ?_
        rw [upd_blocks, q, ← hg]
        exact List.mem_map.2 ⟨e, he, rfl⟩
      refine ⟨fun _ => Iff.rfl, ?_, fun _ => Iff.rfl⟩
      simp only [Res.facts, upd, List.map_cons]
      rw [if_neg hx]
  | put g j us =>
    cases r' with
    | val v' => exact Same.refl _
    | new s' ob' => exact Same.refl _
    | newv t' cs' =>
      obtain ⟨e, he, hg, _⟩ := ho.1
      have hx : x' ≠ g := fun q => by
        have h1 := hs.2
        simp only [Res.facts] at h1
        rw [upd_blocks] at h1
        simp only [List.map_cons, List.nodup_cons] at h1
        refine h1.1 ?_
        rw [q, ← hg]
        exact List.mem_map.2 ⟨e, he, rfl⟩
      refine ⟨fun _ => Iff.rfl, ?_, fun _ => Iff.rfl⟩
      simp only [Res.facts, upd, List.map_cons]
      rw [if_neg hx]
    | put g' j' us' =>
      refine ⟨fun _ => Iff.rfl, ?_, fun p => by simp only [Res.facts, List.mem_cons]; exact or_left_comm⟩
      simp only [Res.facts]
      rw [upd_comm (fun e => ha g j us g' j' us' rfl rfl e)]
theorem holdsS_less {r : Res} {k x : Nat} {F : Facts} {W : World} (h : holdsS (r.facts k x F) W) : holdsS F W := by
  cases r with
  | val v => exact h
  | new s ob => exact ⟨fun p hp => h.1 p (List.mem_cons_of_mem _ hp), h.2⟩
  | newv t cs => exact ⟨h.1, fun e he => h.2 e (List.mem_cons_of_mem _ he)⟩
  | put g j us =>
    refine ⟨h.1, fun e he => ?_⟩
    obtain ⟨e1, h1, _, h2, h3, h4⟩ := mem_upd (g := g) (j := j) (us := us) he
    obtain ⟨cur, h5, h6⟩ := h.2 e1 h1
    exact ⟨cur, by rw [← h2, ← h3]; exact h5, by rw [← h4]; exact h6⟩
theorem depH_less {r : Res} {k i x : Nat} {F : Facts} {W : World} (h : depH ops k (r.facts i x F) W) : depH ops k F W := by
  cases r with
  | val v => exact h
  | new s ob => exact ⟨fun p hp => h.1 p (List.mem_cons_of_mem _ hp), h.2⟩
  | newv t cs => exact ⟨h.1, fun e he => h.2 e (List.mem_cons_of_mem _ he)⟩
  | put g j us =>
    refine ⟨h.1, fun e he hd => ?_⟩
    obtain ⟨e1, h1, h0, h2, h3, h4⟩ := mem_upd (g := g) (j := j) (us := us) he
    obtain ⟨cur, h5, h6⟩ := h.2 e1 h1 (by rw [h0]; exact hd)
    exact ⟨cur, by rw [← h2, ← h3]; exact h5, by rw [← h4]; exact h6⟩
theorem depH_more {r : Res} {k i x : Nat} {F : Facts} {W : World} (hn : depV ops k i = false) (h : depH ops k F W) : depH ops k (r.facts i x F) W := by
  have hn2 : depB ops k i = false := by unfold depV at hn; simp at hn; exact hn.1
  cases r with
  | val v => exact h
  | new s ob =>
    refine ⟨fun p hp hd => ?_, h.2⟩
    rcases List.mem_cons.1 hp with rfl | hp
    · rw [hn2] at hd; cases hd
    · exact h.1 p hp hd
  | newv t cs =>
    refine ⟨h.1, fun e he hd => ?_⟩
    rcases List.mem_cons.1 he with rfl | he
    · rw [hn] at hd; cases hd
    · exact h.2 e he hd
  | put g j us =>
    refine ⟨h.1, fun e he hd => ?_⟩
    obtain ⟨e0, h1, h0, h2, h3, h4, _⟩ := upd_mem he
    obtain ⟨cur, h5, h6⟩ := h.2 e0 h1 (by rw [h0]; exact hd)
    exact ⟨cur, by rw [← h2, ← h3]; exact h5, by rw [← h4]; exact h6⟩
theorem depH_of_holds {k : Nat} {F : Facts} {W : World} (h : holdsS F W) : depH ops k F W := ⟨fun p hp _ => h.1 p hp, fun e he _ => h.2 e he⟩
theorem ok_less {r ri : Res} {k i x : Nat} {F : Facts} (hn : depV ops k i = false) (h : r.ok ops k (ri.facts i x F)) : r.ok ops k F := by
  cases r with
  | put g j us =>
    cases ri with
    | val v => exact h
    | new s ob => exact h
    | newv t cs =>
      obtain ⟨⟨e, he, h1, h2, h3⟩, h4⟩ := h
      refine ⟨⟨e, ?_, h1, h2, h3⟩, h4⟩
      rcases List.mem_cons.1 he with rfl | he
      · rw [hn] at h2; cases h2
      · exact he
    | put g' j' us' =>
      obtain ⟨⟨e, he, h1, h2, h3⟩, h4⟩ := h
      obtain ⟨e0, q1, q0, q2, _, q4, _⟩ := upd_mem he
      exact ⟨⟨e0, q1, q2.trans h1, by rw [q0]; exact h2, by rw [q4]; exact h3⟩, fun q hq => h4 q (List.mem_cons_of_mem _ hq)⟩
  | _ => exact h
theorem ok_more {r rj : Res} {k j x : Nat} {F : Facts} (h : r.ok ops k F) (ha : ∀ g j us g' j' us', r = .put g j us → rj = .put g' j' us' → apartR (g', j', us'.length) (g, j, us.length)) : r.ok ops k (rj.facts j x F) := by
  cases r with
  | put g b us =>
    cases rj with
    | val v => exact h
    | new s ob => exact h
    | newv t cs => exact ⟨h.1.imp fun e ⟨h1, h2⟩ => ⟨List.mem_cons_of_mem _ h1, h2⟩, h.2⟩
    | put g' j' us' =>
      obtain ⟨⟨e, he, h1, h2, h3⟩, h4⟩ := h
      obtain ⟨e1, q1, q0, q2, _, q4⟩ := mem_upd (g := g') (j := j') (us := us') he
      refine ⟨⟨e1, q1, q2.trans h1, by rw [q0]; exact h2, by rw [q4]; exact h3⟩, fun q hq => ?_⟩
      rcases List.mem_cons.1 hq with rfl | hq
      · exact ha g b us g' j' us' rfl rfl
      · exact h4 q hq
  | _ => exact h
theorem sep_less {r : Res} {k x : Nat} {F : Facts} (h : Sep (r.facts k x F)) : Sep F := by
  cases r with
  | val v => exact h
  | new s ob => exact ⟨fun p hp => h.1 p (List.mem_cons_of_mem _ hp), h.2⟩
  | newv t cs =>
    refine ⟨fun p hp e he => h.1 p hp e (List.mem_cons_of_mem _ he), ?_⟩
    have := h.2
    simp only [Res.facts, List.map_cons, List.nodup_cons] at this
    exact this.2
  | put g j us =>
    refine ⟨fun p hp e he => ?_, ?_⟩
    · obtain ⟨e1, h1, _, h2, _⟩ := mem_upd (g := g) (j := j) (us := us) he
      rw [← h2]; exact h.1 p hp e1 h1
    · have := h.2
      simp only [Res.facts] at this
      rwa [upd_blocks] at this
theorem Real.less {r : Res} {k x : Nat} {F : Facts} (g : Real C (r.facts k x F)) : Real C F := ⟨sep_less g.1, g.2.imp fun _ ⟨h1, h2⟩ => ⟨h1, holdsS_less h2⟩⟩
theorem obj_lt {w : World} {k : Nat} {o : Obj} (h : w.heap[k]? = some o) : k < w.heap.size := by
  rcases Nat.lt_or_ge k w.heap.size with g | g
  · exact g
  · simp [Array.getElem?_eq_none g] at h
theorem holds_below {F : Facts} {W W' : World} (h : holds F W) (hb : Below W.heap.size W W') : holds F W' := ⟨fun p hp => (hb.block _ (obj_lt (h.1 p hp))).trans (h.1 p hp), fun e he => (hb.block _ (obj_lt (h.2 e he))).trans (h.2 e he)⟩
theorem holdsS_below {F : Facts} {W W' : World} (h : holdsS F W) (hb : Below W.heap.size W W') : holdsS F W' :=
  ⟨fun p hp => (hb.block _ (obj_lt (h.1 p hp))).trans (h.1 p hp), fun e he => by obtain ⟨cur, h1, h2⟩ := h.2 e he; exact ⟨cur, (hb.block _ (obj_lt h1)).trans h1, h2⟩⟩
structure UpC (C : World → Prop) (V : Nat → Prop) : Prop where
  up : ∀ W W', C W → Below W.heap.size W W' → C W'
  put : ∀ W g j us cur t, C W → V g → W.heap[g]? = some (.cells cur t (0, 0)) → C (W.setCells g j us)
  fresh : ∀ W, C W → V W.heap.size
theorem real_ex (hC : UpC C V) {k : Nat} {o : Oper} {r : Res} {a : Act} {F : Facts} (hy : Yields P ops C k o r a F) (h : Real C F) : ∃ x, Real C (r.facts k x F) := by
  obtain ⟨hs, W, h1, h2⟩ := h
  cases r with
  | val v => exact ⟨0, hs, W, h1, h2⟩
  | new s ob =>
    have hB : Below W.heap.size W (W.alloc ob) := below_alloc (Below.refl _ _) _
    refine ⟨W.heap.size, ⟨fun p hp e he => ?_, hs.2⟩, W.alloc ob, hC.up _ _ h1 hB, fun p hp => ?_, (holdsS_below h2 hB).2⟩
    · rcases List.mem_cons.1 hp with rfl | hp
      · obtain ⟨cur, q, _⟩ := h2.2 e he
        have := obj_lt q
        intro e'
        have e' : W.heap.size = e.2.1 := e'
        omega
      · exact hs.1 p hp e he
    · rcases List.mem_cons.1 hp with rfl | hp
      · exact blk_new W ob
      · exact (holdsS_below h2 hB).1 p hp
  | newv t cs =>
    have hB : Below W.heap.size W (W.alloc (.cells cs t (0, 0))) := below_alloc (Below.refl _ _) _
    refine ⟨W.heap.size, ⟨fun p hp e he => ?_, ?_⟩, W.alloc (.cells cs t (0, 0)), hC.up _ _ h1 hB, (holdsS_below h2 hB).1, fun e he => ?_⟩
    · rcases List.mem_cons.1 he with rfl | he
      · have := obj_lt (h2.1 p hp)
        intro e'
        have e' : p.2.1 = W.heap.size := e'
        omega
      · exact hs.1 p hp e he
    · simp only [Res.facts, List.map_cons, List.nodup_cons]
      refine ⟨fun hm => ?_, hs.2⟩
      obtain ⟨e, he, q⟩ := List.mem_map.1 hm
      obtain ⟨cur, q1, _⟩ := h2.2 e he
      have := obj_lt q1
      omega
    · rcases List.mem_cons.1 he with rfl | he
      · exact ⟨cs, blk_new W _, rfl⟩
      · exact (holdsS_below h2 hB).2 e he
  | put g j us =>
    refine ⟨0, ⟨fun p hp e he => ?_, ?_⟩, W, h1, h2.1, fun e he => ?_⟩
    · obtain ⟨e0, q1, _, q2, _⟩ := upd_mem he
      rw [← q2]
      exact hs.1 p hp e0 q1
    · simp only [Res.facts]
      rw [upd_blocks]
      exact hs.2
    · obtain ⟨e0, q1, _, q2, q3, q4, _⟩ := upd_mem he
      obtain ⟨cur, q5, q6⟩ := h2.2 e0 q1
      exact ⟨cur, by rw [← q2, ← q3]; exact q5, by rw [← q4]; exact q6⟩
theorem stepO_perm {i : Nat} {K : Act → Facts → Prop} {a : Act} {F G : Facts} (hK : ∀ a F G, Same F G → K a F → K a G) (h : Same F G) (hh : stepO P ops C i K a F) : stepO P ops C i K a G := by
  unfold stepO at *
  split at hh
  · exact hK _ _ _ h hh
  · obtain ⟨r, h1, h2⟩ := hh
    refine ⟨r, ?_, fun x hx => ?_⟩
    · rcases h1 with ⟨hw, ho, h1⟩ | h1
      · exact .inl ⟨hw, h.ok ho, fun W hc hd => h1 W hc (h.symm.depH hd)⟩
      · exact .inr h1
    · exact hK _ _ _ (h.facts r i x) (h2 x ((h.facts r i x).symm.real hx))
theorem wpAnyO_perm (hQ : ∀ a F G, Same F G → Q a F → Q a G) : ∀ (fuel : Nat) (listed : Array Bool) (a : Act) (F G : Facts), Same F G → wpAnyO P ops C Q fuel listed a F → wpAnyO P ops C Q fuel listed a G
  | 0, _, _, _, _, h, hh => ⟨hh.1, hQ _ _ _ h hh.2⟩
  | fuel + 1, _, _, _, _, h, hh => ⟨fun h0 => hQ _ _ _ h (hh.1 h0), fun i hi => stepO_perm (fun a F G => wpAnyO_perm hQ fuel _ a F G) h (hh.2 i hi)⟩
theorem yields_same {o : Oper} {r : Res} {a a' : Act} {W : World} (hs : ∀ cs b, o.op ≠ .select cs b) (he : execOp a'.eval o = execOp a.eval o) (hx : ∀ x ∈ o.op.operands, a'.eval x = a.eval x) (h : r.yields P o a W) : r.yields P o a' W := by
  cases r with
  | val v => exact ⟨h.1, by rw [he]; exact h.2⟩
  | new s ob => exact ⟨h.1, by rw [he]; exact h.2⟩
  | newv t cs => exact ⟨h.1, by rw [he]; exact h.2⟩
  | put g j us =>
    obtain ⟨⟨t, x, v, e, ex, ev⟩, h2⟩ := h
    exact ⟨⟨t, x, v, e, by rw [hx x (by rw [e]; simp [Op.operands])]; exact ex, by rw [hx v (by rw [e]; simp [Op.operands])]; exact ev⟩, by rw [he]; exact h2⟩
theorem eval_put {o : Oper} {a : Act} {dst : Option Tmp} {v : Value} (h : ∀ d, dst = some d → d ∉ o.looksAt ops) : ∀ x ∈ o.op.operands, (a.put dst v).eval x = a.eval x := fun x hx =>
  Act.eval_put fun d hd hxd => h d hd (by
    subst hxd
    exact List.mem_append_left _ (List.mem_filterMap.2 ⟨.tmp d, by simpa using hx, rfl⟩))
theorem Yields.of_same {k : Nat} {o : Oper} {r : Res} {a a' : Act} {F G : Facts} (hs : ∀ cs b, o.op ≠ .select cs b) (hy : Yields P ops C k o r a F) (he : execOp a'.eval o = execOp a.eval o) (hx : ∀ x ∈ o.op.operands, a'.eval x = a.eval x) (hw : Region.wanted o (yielded ops a'.tmps) = Region.wanted o (yielded ops a.tmps)) (ho : r.ok ops k F → r.ok ops k G) (hd : ∀ W, depH ops k G W → depH ops k F W) : Yields P ops C k o r a' G := by
  unfold Yields at *
  rw [hw]
  exact hy.imp (fun ⟨h1, h3, h2⟩ => ⟨h1, ho h3, fun W hc hW => yields_same hs he hx (h2 W hc (hd W hW))⟩) id
theorem Yields.det {k : Nat} {o : Oper} {r r' : Res} {a : Act} {F : Facts} (h : Yields P ops C k o r a F) (h' : Yields P ops C k o r' a F) (hr : Real C F) : r = r' := by
  obtain ⟨_, W, hc, hW⟩ := hr
  rcases h with ⟨hw, _, h⟩ | ⟨hw, h⟩ <;> rcases h' with ⟨hw', _, h'⟩ | ⟨hw', h'⟩
  · exact Res.det (h W hc (depH_of_holds hW)) (h' W hc (depH_of_holds hW))
  · rw [hw] at hw'; cases hw'
  · rw [hw] at hw'; cases hw'
  · rw [h, h']
theorem Yields.ok {k : Nat} {o : Oper} {r : Res} {a : Act} {F : Facts} (h : Yields P ops C k o r a F) : r.ok ops k F := by
  rcases h with ⟨_, h, _⟩ | ⟨_, rfl⟩
  · exact h
  · trivial
theorem wpAnyO_first (hC : UpC C V) (hQ : ∀ a F G, Same F G → Q a F → Q a G) {i : Nat} {oi : Oper} (hi : ops[i]? = some oi) (hsel : ∀ (j : Nat) (o : Oper) cs b, ops[j]? = some o → o.op ≠ .select cs b) :
    ∀ (fuel : Nat) (listed : Array Bool) (a : Act) (F : Facts), Real C F →
      (∀ j oj, ops[j]? = some oj → j ≠ i → listed.getD j true = false → (∀ e ∈ oj.after, Region.binds .any e = true → e.on ≠ i) → oi.apart ops oj = true) →
      i ∈ Region.ready .any ops listed → ∀ ri, Yields P ops C i oi ri a F →
      (∀ x, Real C (ri.facts i x F) → wpAnyO P ops C Q fuel (listed.setIfInBounds i true) (a.put oi.dst (ri.out x)) (ri.facts i x F)) → wpAnyO P ops C Q (fuel + 1) listed a F := by
  have hin : i ≠ ops.size := by have := (Array.getElem?_eq_some_iff.1 hi).1; omega
  intro fuel
  induction fuel with
  | zero =>
    intro listed a F hF _ hr ri hy H
    refine ⟨fun h => (by rw [h] at hr; cases hr), fun j hj => ?_⟩
    by_cases hji : j = i
    · subst hji; unfold stepO; simp only [hi]; exact ⟨ri, hy, H⟩
    · have := ready_mono hj hji
      obtain ⟨x, hx⟩ := real_ex hC hy hF
      rw [(H x hx).1] at this
      cases this
  | succ fuel ih =>
    intro listed a F hF hfree hr ri hy H
    refine ⟨fun h => (by rw [h] at hr; cases hr), fun j hj => ?_⟩
    by_cases hji : j = i
    · subst hji; unfold stepO; simp only [hi]; exact ⟨ri, hy, H⟩
    · have hjr := ready_mono hj hji
      obtain ⟨hjun, oj, hoj, hall⟩ := mem_ready.1 hj
      have hiun := (mem_ready.1 hr).1
      have hnot : ∀ e ∈ oj.after, Region.binds .any e = true → e.on ≠ i := fun e he hb heq => by
        have h1 := hall e he hb
        have h0 := hiun
        rw [heq] at h1
        rcases Nat.lt_or_ge i listed.size with h' | h'
        · simp [h'] at h0 h1; rw [h0] at h1; cases h1
        · simp [Array.getElem?_eq_none h'] at h1
      have hdn : depV ops j i = false := by
        unfold depV depB
        rw [hoj]
        simp only [Option.map_some, Option.getD_some, Bool.or_eq_false_iff, beq_eq_false_iff_ne]
        refine ⟨?_, hin⟩
        rw [Bool.eq_false_iff]
        intro hh
        obtain ⟨e, he, h1⟩ := Array.any_eq_true'.1 hh
        simp only [Bool.and_eq_true, beq_iff_eq] at h1
        exact hnot e he h1.1 h1.2
      obtain ⟨h1, h2, h3⟩ := Oper.apart_spec (hfree j oj hoj hji hjun hnot)
      have hsi := fun cs b => hsel i oi cs b hi
      have hsj := fun cs b => hsel j oj cs b hoj
      -- what j comes to, whatever i handed back
      have Hj : ∀ x, Real C (ri.facts i x F) → ∃ r, Yields P ops C j oj r a F ∧ (∀ g b us g' b' us', r = .put g b us → ri = .put g' b' us' → apartR (g', b', us'.length) (g, b, us.length)) ∧
          ∀ y, Real C (r.facts j y (ri.facts i x F)) → wpAnyO P ops C Q fuel ((listed.setIfInBounds i true).setIfInBounds j true) ((a.put oi.dst (ri.out x)).put oj.dst (r.out y)) (r.facts j y (ri.facts i x F)) := fun x hx => by
        have h := (H x hx).2 j hjr
        unfold stepO at h
        simp only [hoj] at h
        obtain ⟨r, hr1, hr2⟩ := h
        refine ⟨r, hr1.of_same hsj (execOp_put oj hsj a oi.dst _ h1).symm (fun x hx => (eval_put h1 x hx).symm) (wanted_put oj a oi.dst _ h1).symm (ok_less hdn) (fun W hW => depH_more hdn hW), ?_, hr2⟩
        intro g b us g' b' us' e e'
        have h5 := hr1.ok
        rw [e, e'] at h5
        exact h5.2 _ List.mem_cons_self
      obtain ⟨x0, hx0⟩ := real_ex hC hy hF
      obtain ⟨rj, hyj, hap, _⟩ := Hj x0 hx0
      unfold stepO
      simp only [hoj]
      refine ⟨rj, hyj, fun y hy1 => ?_⟩
      have hfree' : ∀ k ok, ops[k]? = some ok → k ≠ i → (listed.setIfInBounds j true).getD k true = false →
          (∀ e ∈ ok.after, Region.binds .any e = true → e.on ≠ i) → oi.apart ops ok = true := fun k ok hk hki hun hno => by
        refine hfree k ok hk hki ?_ hno
        by_cases hjk : j = k
        · subst hjk; exact hjun
        · rw [getD_set_ne true hjk] at hun; exact hun
      have hap' : ∀ g b us g' b' us', ri = .put g b us → rj = .put g' b' us' → apartR (g, b, us.length) (g', b', us'.length) := fun g b us g' b' us' e e' => hap g' b' us' g b us e' e
      refine ih (listed.setIfInBounds j true) _ _ hy1 hfree' (ready_mono hr (Ne.symm hji)) ri ?_ (fun x hx => ?_)
      · exact hy.of_same hsi (execOp_put oi hsi a oj.dst _ h3) (fun x hx => eval_put h3 x hx) (wanted_put oi a oj.dst _ h3) (fun h => ok_more h (fun g b us g' b' us' e e' => (hap' g b us g' b' us' e e').symm)) (fun W hW => depH_less hW)
      · have hsw := facts_swap (ops := ops) (x := x) (x' := y) (k := i) (k' := j) (r := ri) (r' := rj) hx.1 hy.ok hyj.ok hap'
        have hx' : Real C (ri.facts i x F) := (hsw.real hx).less
        obtain ⟨r, hr1, _, hr2⟩ := Hj x hx'
        have e : r = rj := hr1.det hyj hF
        subst e
        have := hr2 y (hsw.real hx)
        rw [Array.setIfInBounds_comm _ _ (Ne.symm hji), Act.put_comm a (ri.out x) (r.out y) h2] at this
        exact wpAnyO_perm hQ _ _ _ _ _ hsw.symm this
theorem wpAnyO_lex (hC : UpC C V) (hQ : ∀ a F G, Same F G → Q a F → Q a G) (hs : Region.noSelect ops = true) : ∀ (l : List Oper) (k : Nat) (listed : Array Bool) (a : Act) (F : Facts), Real C F → (∀ j, l[j]? = ops[k + j]?) →
    Region.lexFrom .any ops l.length k listed = true → wpO P ops C Q k l a F → wpAnyO P ops C Q l.length listed a F
  | [], _, _, _, _, _, _, hB, h => ⟨by simpa [Region.lexFrom] using hB, h⟩
  | o :: l, k, listed, a, F, hF, hl, hB, h => by
    have h0 : ops[k]? = some o := by simpa using (hl 0).symm
    simp only [List.length_cons, Region.lexFrom, Bool.and_eq_true] at hB
    obtain ⟨⟨hr, hf⟩, hB'⟩ := hB
    obtain ⟨r, hy, hK⟩ := h
    exact wpAnyO_first hC hQ h0 (Region.noSelect_spec hs) l.length listed a F hF (Region.free_spec h0 hf) (by simpa using hr) r hy
      (fun x hx => wpAnyO_lex hC hQ hs l (k + 1) _ _ _ hx (fun j => by have := hl (j + 1); simpa [Nat.add_assoc, Nat.add_comm 1 j] using this) hB' (hK x hx))
theorem setR_row {cs : Array Value} {j : Nat} {us : List Value} (h : j + us.length ≤ cs.size) : setR j us cs = (cs.toList.take j ++ us ++ cs.toList.drop (j + us.length)).toArray := by
  apply Array.ext_getElem?
  intro i
  simp only [setR, Array.getElem?_mapIdx]
  by_cases hi : i < cs.size
  · rw [Array.getElem?_eq_getElem hi, Option.map_some]
    simp only [List.getElem?_toArray]
    by_cases h1 : i < j
    · rw [if_neg (by omega), List.append_assoc, List.getElem?_append_left (by simp; omega), List.getElem?_take_of_lt h1]
      simp [hi]
    · by_cases h2 : i < j + us.length
      · rw [if_pos ⟨by omega, h2⟩, List.getElem?_append_left (by simp; omega), List.getElem?_append_right (by simp; omega)]
        have h3 : i - (List.take j cs.toList).length = i - j := by simp; omega
        rw [h3, List.getD_eq_getElem?_getD, List.getElem?_eq_getElem (by omega)]
        rfl
      · rw [if_neg (by omega), List.getElem?_append_right (by simp; omega), List.getElem?_drop]
        have h3 : j + us.length + (i - (List.take j cs.toList ++ us).length) = i := by simp; omega
        rw [h3]
        simp [hi]
  · rw [Array.getElem?_eq_none (by omega)]
    simp only [List.getElem?_toArray, Option.map_none]
    rw [List.getElem?_eq_none (by simp; omega)]
theorem holds_put {F : Facts} {w : World} {g j k x : Nat} {us : List Value} (hF : holds F w) (hs : Sep F) (ho : (Res.put g j us).ok ops k F) : holds ((Res.put g j us).facts k x F) (w.setCells g j us) := by
  obtain ⟨⟨e, he, hg, _, hsz⟩, _⟩ := ho
  have hgb := hF.2 e he
  have hfar : ∀ b, b ≠ g → (w.setCells g j us).heap[b]? = w.heap[b]? := fun b hb => setCells_far us j b hb
  refine ⟨fun p hp => ?_, fun d hd => ?_⟩
  · exact (hfar _ (fun q => hs.1 p hp e he (q.trans hg.symm))).trans (hF.1 p hp)
  · obtain ⟨e0, q1, q0, q2, q3, q4, q5, q6⟩ := upd_mem hd
    by_cases hq : d.2.1 = g
    · have h0 := hF.2 e0 q1
      rw [q2, hq] at h0
      have h1 := hgb
      rw [hg, h0] at h1
      injection h1 with h1
      injection h1 with h1 h2
      obtain ⟨cur', c1, c2, c3⟩ := setCells_row us j w e0.2.2.2 h0 (by rw [h1]; exact hsz)
      have h6 : cur' = setR j us e0.2.2.2 := by
        rw [setR_row (by rw [h1]; exact hsz)]
        apply Array.ext'
        rw [c3]
      rw [hq, c1, h6, q5 hq, q3]
    · rw [hfar _ hq, q6 hq]
      exact hF.2 e0 q1
def InV (V : Nat → Prop) (F : Facts) : Prop := ∀ e, e ∈ F.var → V e.2.1
theorem wpOp_of_stepO (hC : UpC C V) {i : Nat} {a : Act} {F : Facts} {K : Act → Facts → Prop} {K' : Act → World → Prop} {Q' : Exit → Act → World → Prop} {w : World} (hc : C w) (hF : holds F w) (hs : Sep F) (hv : InV V F) (h : ∀ a F w', C w' → holds F w' → Sep F → InV V F → K a F → K' a w') (hh : stepO P ops C i K a F) : wpOp P ops Q' i K' a w := by
  unfold stepO at hh
  unfold wpOp
  split
  · rename_i ho; simp only [ho] at hh; exact h _ _ _ hc hF hs hv hh
  · rename_i o ho
    simp only [ho] at hh
    obtain ⟨r, hy, hK⟩ := hh
    rcases hy with ⟨hw, hok, hy⟩ | ⟨hw, rfl⟩
    · rw [if_pos hw]
      refine .inl ?_
      have hy := hy w hc (depH_of_holds hF.s)
      unfold Oper.wp
      cases r with
      | val v =>
        obtain ⟨_, hy⟩ := hy
        have hK : K (a.put o.dst v) F := hK 0 ⟨hs, w, hc, hF.s⟩
        generalize (execOp a.eval o).run P w = q at *
        cases q with
        | ok n w' =>
          cases n <;> simp only [dUpon] at hy <;> simp only [Oper.upon]
          case value u =>
            obtain ⟨e1, e2⟩ := hy
            rw [e1, e2]
            exact h _ _ _ hc hF hs hv hK
          case skip =>
            obtain ⟨e1, e2⟩ := hy
            rw [e1, ← e2]
            exact h _ _ _ hc hF hs hv hK
          case enter f args =>
            obtain ⟨e1, _, hcall⟩ := hy
            rw [e1]
            exact hcall.mono fun e w'' ⟨he, hb⟩ => by subst he; exact h _ _ _ (hC.up _ _ hc hb) (holds_below hF hb) hs hv hK
        | halt x w' => simp only [dUpon] at hy
      | new s ob =>
        obtain ⟨_, hy⟩ := hy
        rw [hy]
        simp only [Oper.upon]
        have hB : Below w.heap.size w (w.alloc ob) := below_alloc (Below.refl _ _) _
        have hF' : holds ((Res.new s ob).facts i w.heap.size F) (w.alloc ob) := ⟨fun p hp => by
          rcases List.mem_cons.1 hp with rfl | hp
          · exact blk_new w ob
          · exact (holds_below hF hB).1 p hp, (holds_below hF hB).2⟩
        have hs' : Sep ((Res.new s ob).facts i w.heap.size F) := ⟨fun p hp e he => by
          rcases List.mem_cons.1 hp with rfl | hp
          · have := obj_lt (hF.2 e he)
            intro e'
            have e' : w.heap.size = e.2.1 := e'
            omega
          · exact hs.1 p hp e he, hs.2⟩
        exact h _ _ _ (hC.up _ _ hc hB) hF' hs' hv (hK _ ⟨hs', _, hC.up _ _ hc hB, hF'.s⟩)
      | newv t cs =>
        obtain ⟨_, hy⟩ := hy
        rw [hy]
        simp only [Oper.upon]
        have hB : Below w.heap.size w (w.alloc (.cells cs t (0, 0))) := below_alloc (Below.refl _ _) _
        have hF' : holds ((Res.newv t cs).facts i w.heap.size F) (w.alloc (.cells cs t (0, 0))) := ⟨(holds_below hF hB).1, fun e he => by
          rcases List.mem_cons.1 he with rfl | he
          · exact blk_new w _
          · exact (holds_below hF hB).2 e he⟩
        have hs' : Sep ((Res.newv t cs).facts i w.heap.size F) := ⟨fun p hp e he => by
          rcases List.mem_cons.1 he with rfl | he
          · have := obj_lt (hF.1 p hp)
            intro e'
            have e' : p.2.1 = w.heap.size := e'
            omega
          · exact hs.1 p hp e he, by
          simp only [Res.facts, List.map_cons, List.nodup_cons]
          refine ⟨fun hm => ?_, hs.2⟩
          obtain ⟨e, he, q⟩ := List.mem_map.1 hm
          have := obj_lt (hF.2 e he)
          omega⟩
        have hv' : InV V ((Res.newv t cs).facts i w.heap.size F) := fun e he => by
          rcases List.mem_cons.1 he with rfl | he
          · exact hC.fresh w hc
          · exact hv e he
        exact h _ _ _ (hC.up _ _ hc hB) hF' hs' hv' (hK _ ⟨hs', _, hC.up _ _ hc hB, hF'.s⟩)
      | put g j us =>
        obtain ⟨_, hy⟩ := hy
        have hF' := holds_put (k := i) (x := 0) hF hs hok
        obtain ⟨⟨e, he, hg, hd, hsz⟩, hl⟩ := hok
        have hC' : C (w.setCells g j us) := hC.put w g j us _ _ hc (hg ▸ hv e he) (hg ▸ hF.2 e he)
        have hs' : Sep ((Res.put g j us).facts i 0 F) := ⟨fun p hp d hd => by
          obtain ⟨e0, q1, _, q2, _⟩ := upd_mem hd
          rw [← q2]
          exact hs.1 p hp e0 q1, by
          simp only [Res.facts]
          rw [upd_blocks]
          exact hs.2⟩
        have hv' : InV V ((Res.put g j us).facts i 0 F) := fun d hd => by
          obtain ⟨e0, q1, _, q2, _⟩ := upd_mem hd
          rw [← q2]
          exact hv e0 q1
        have hK := hK 0 ⟨hs', _, hC', hF'.s⟩
        generalize (execOp a.eval o).run P w = q at *
        cases q with
        | ok n w' =>
          cases n <;> simp only [pUpon] at hy <;> simp only [Oper.upon]
          case value u =>
            obtain ⟨e1, e2⟩ := hy
            rw [e1, e2]
            exact h _ _ _ hC' hF' hs' hv' hK
          case skip =>
            rw [hy]
            exact h _ _ _ hC' hF' hs' hv' hK
        | halt x w' => simp only [pUpon] at hy
    · rw [if_neg (by rw [hw]; decide)]
      exact h _ _ _ hc hF hs hv (hK 0 ⟨hs, w, hc, hF.s⟩)
theorem wpAny_of_O (hC : UpC C V) {Q' : Exit → Act → World → Prop} (hQ : ∀ a F w, C w → holds F w → Sep F → InV V F → Q a F → Q' .normal a w) : ∀ (fuel : Nat) (listed : Array Bool) (a : Act) (F : Facts) (w : World), C w → holds F w → Sep F → InV V F →
    wpAnyO P ops C Q fuel listed a F → wpAny P .any ops Q' fuel listed a w
  | 0, _, _, _, _, hw, hF, hs, hv, h => ⟨h.1, hQ _ _ _ hw hF hs hv h.2⟩
  | fuel + 1, _, _, _, _, hw, hF, hs, hv, h => ⟨fun h0 => hQ _ _ _ hw hF hs hv (h.1 h0), fun i hi => wpOp_of_stepO hC hw hF hs hv (fun a' F' w' hw' hF' hs' hv' => wpAny_of_O hC hQ fuel _ a' F' w' hw' hF' hs' hv') (h.2 i hi)⟩
theorem wp_region_O (hC : UpC C V) {id : Nat} {Q' : Exit → Act → World → Prop} {a : Act} {w : World} (F0 : Facts) (hm : P.follows .mixedOrders = true) (hB : Region.lexB .any ops = true) (hc : C w) (hF : holds F0 w) (hs : Sep F0) (hv : InV V F0)
    (h : wpO P ops C (fun a' F => ∀ w', C w' → holds F w' → Sep F → InV V F → Q' .normal a' w') 0 ops.toList a F0) : (Code.region id ops true).wp P Q' a w := by
  simp only [Region.lexB, Bool.and_eq_true] at hB
  have hb : Below w.heap.size w { w with drawn := w.drawn + 1 } := ⟨rfl, rfl, rfl, Nat.le_refl _, fun _ _ => rfl⟩
  have hc' : C { w with drawn := w.drawn + 1 } := hC.up _ _ hc hb
  have hF' := holds_below hF hb
  refine wp_region_any hm (wpAny_of_O hC (Q := fun a' F => ∀ w', C w' → holds F w' → Sep F → InV V F → Q' .normal a' w') (fun _ _ w' hw' hF hs hv h => h w' hw' hF hs hv) _ _ _ F0 _ hc' hF' hs hv ?_)
  have := wpAnyO_lex (C := C) hC (Q := fun a' F => ∀ w', C w' → holds F w' → Sep F → InV V F → Q' .normal a' w') (fun a F G h hh w' hw' hG hsG hvG => hh w' hw' (h.symm.holds hG) (h.symm.sep hsG) (fun e he => hvG e (h.var.mem_iff.1 he))) hB.1 ops.toList 0 (Array.replicate ops.size false) a F0 ⟨hs, _, hc', hF'.s⟩ (by simp) (by simpa using hB.2) h
  simpa using this
end
end Go.Proofs.YtbmfgcekglgliaaGreatKr

namespace Go.Proofs.YtbmfgcekglgliaaGreatKr
open Go.RowKit Go.Proofs.YtbmfgcekglgliaaGreatW.PrintWords Go.Proofs.YtbmfgcekglgliaaGreatW.PrintLast Go.Proofs.YtbmfgcekglgliaaGreatW.PrintMore
open Go.Proofs.YtbmfgcekglgliaaGreatEm (Fr Chg At Of Tr Keep)
set_option linter.unusedVariables false
theorem upC_chg {D : Nat → Prop} {W0 : World} : UpC (Chg D W0) (fun k => D k ∨ W0.heap.size ≤ k) where
  up := fun W W' h hb => h.trans (Chg.of_below hb)
  put := fun W g j us cur t h hv hg => by
    obtain ⟨s1, s2, s3, s4⟩ := setCells_same g us j W
    refine ⟨s1.trans h.os, s2.trans h.tape, s3.trans h.output, by rw [s4]; exact h.size, fun k hk hn => ?_⟩
    refine (setCells_far us j k (fun e => ?_)).trans (h.block k hk hn)
    subst e
    rcases hv with hv | hv
    · exact hn hv
    · omega
  fresh := fun W h => .inr h.size
structure Rd (bl : List (Nat × Obj)) (p : World → Prop) (W : World) : Prop where
  blk : ∀ x, x ∈ bl → W.heap[x.1]? = some x.2
  now : p W
theorem Rd.at {bl bl' : List (Nat × Obj)} {p : World → Prop} {W : World} {g : Nat} {o n : Obj} (h : Rd bl p W) (ha : At bl g o n bl') : W.heap[g]? = some o := h.blk _ ha.mem
inductive Take : List (Nat × Obj) → Nat → Obj → List (Nat × Obj) → Prop
  | head {g : Nat} {o : Obj} {bl : List (Nat × Obj)} : Take ((g, o) :: bl) g o bl
  | tail {g : Nat} {o : Obj} {x : Nat × Obj} {bl bl' : List (Nat × Obj)} (h : Take bl g o bl') : Take (x :: bl) g o (x :: bl')
theorem Take.perm {bl bl' : List (Nat × Obj)} {g : Nat} {o : Obj} (h : Take bl g o bl') : bl.Perm ((g, o) :: bl') := by
  induction h with
  | head => exact List.Perm.refl _
  | tail h ih => exact (ih.cons _).trans (List.Perm.swap _ _ _)
def cv (e : Nat × Nat × TypeId × Array Value) : Nat × Obj := (e.2.1, .cells e.2.2.2 e.2.2.1 (0, 0))
def vars (n : Nat) (D : List (Nat × TypeId × Array Value)) : List (Nat × Nat × TypeId × Array Value) := D.map fun d => (n, d.1, d.2.1, d.2.2)
def inD (D : List (Nat × TypeId × Array Value)) (k : Nat) : Prop := ∃ d, d ∈ D ∧ d.1 = k
section
variable {M A : Nat → Prop} {w W : World} {bl bl0 : List (Nat × Obj)} {p : World → Prop} {D : List (Nat × TypeId × Array Value)}
theorem nd_perm {l l' : List (Nat × Obj)} (h : l.Perm l') (g : l.Pairwise (fun x y => x.1 ≠ y.1)) : l'.Pairwise (fun x y => x.1 ≠ y.1) := (h.pairwise_iff (fun h e => h e.symm)).1 g
theorem Fr.behind (H : Fr M A w W bl p) (hp : bl.Perm (D.map (fun d => (d.1, Obj.cells d.2.2 d.2.1 (0, 0))) ++ bl0)) {F : Facts} {w' : World} (hc : Chg (inD D) W w') (hF : holds F w') (hs : Sep F) (hv : InV (fun k => inD D k ∨ W.heap.size ≤ k) F) (hD : ∀ d, d ∈ D → ∃ e, e ∈ F.var ∧ e.2.1 = d.1) :
    Fr M A w w' (F.var.map cv ++ bl0) p := by
  have nd := nd_perm hp H.nd
  have hDbl : ∀ k, inD D k → Of bl k := fun k ⟨d, hd, e⟩ => ⟨_, hp.mem_iff.2 (List.mem_append_left _ (List.mem_map.2 ⟨d, hd, rfl⟩)), e⟩
  have h0 : ∀ x, x ∈ bl0 → ¬ inD D x.1 := fun x hx ⟨d, hd, e⟩ => (List.pairwise_append.1 nd).2.2 _ (List.mem_map.2 ⟨d, hd, rfl⟩) x hx e
  have h0m : ∀ x, x ∈ bl0 → x ∈ bl := fun x hx => hp.mem_iff.2 (List.mem_append_right _ hx)
  have h0l : ∀ x, x ∈ bl0 → x.1 < W.heap.size := fun x hx => obj_lt (H.blk x (h0m x hx)).1
  have hM : ∀ k, inD D k → w.heap.size ≤ k ∨ M k := fun k hk => by
    obtain ⟨x, hx, e⟩ := hDbl k hk
    rw [← e]; exact (H.blk x hx).2
  refine ⟨H.av, ⟨hc.os.trans H.chg.os, hc.tape.trans H.chg.tape, hc.output.trans H.chg.output, Nat.le_trans H.chg.size hc.size, fun k hk hn => ?_⟩, fun x hx => ?_, ?_, ?_⟩
  · refine (hc.block k (Nat.lt_of_lt_of_le hk H.chg.size) (fun hd => ?_)).trans (H.chg.block k hk hn)
    rcases hM k hd with q | q
    · omega
    · exact hn q
  · rcases List.mem_append.1 hx with hx | hx
    · obtain ⟨e, he, rfl⟩ := List.mem_map.1 hx
      refine ⟨hF.2 e he, ?_⟩
      rcases hv e he with q | q
      · exact hM _ q
      · exact .inl (Nat.le_trans H.chg.size q)
    · exact ⟨(hc.block _ (h0l x hx) (h0 x hx)).trans (H.blk x (h0m x hx)).1, (H.blk x (h0m x hx)).2⟩
  · refine List.pairwise_append.2 ⟨?_, (List.pairwise_append.1 nd).2.1, ?_⟩
    · rw [List.pairwise_map]
      have := hs.2
      rw [List.Nodup, List.pairwise_map] at this
      exact this.imp (fun h e => h e)
    · intro x hx y hy e
      obtain ⟨z, hz, rfl⟩ := List.mem_map.1 hx
      have e' : z.2.1 = y.1 := e
      rcases hv z hz with q | q
      · exact h0 y hy (e' ▸ q)
      · have := h0l y hy
        omega
  · intro W'' hW
    refine H.tr W'' (fun k hn hk => ?_)
    have hnd : ¬ inD D k := fun hd => hn (.inr (hDbl k hd))
    refine (hW k (fun q => ?_) (Nat.lt_of_lt_of_le hk hc.size)).trans (hc.block k hk hnd)
    rcases q with q | ⟨x, hx, e⟩
    · exact hn (.inl q)
    · rcases List.mem_append.1 hx with hx | hx
      · obtain ⟨z, hz, rfl⟩ := List.mem_map.1 hx
        have e' : z.2.1 = k := e
        rcases hv z hz with q | q
        · exact hnd (e' ▸ q)
        · omega
      · exact hn (.inr ⟨x, h0m x hx, e⟩)
theorem Fr.rd (H : Fr M A w W bl p) (hp : bl.Perm (D.map (fun d => (d.1, Obj.cells d.2.2 d.2.1 (0, 0))) ++ bl0)) : ∀ w', Chg (inD D) W w' → Rd bl0 p w' := by
  have nd := nd_perm hp H.nd
  have hDbl : ∀ k, inD D k → Of bl k := fun k ⟨d, hd, e⟩ => ⟨_, hp.mem_iff.2 (List.mem_append_left _ (List.mem_map.2 ⟨d, hd, rfl⟩)), e⟩
  intro w' hc
  refine ⟨fun x hx => ?_, H.tr w' (fun k hn hk => hc.block k hk (fun hd => hn (.inr (hDbl k hd))))⟩
  have hm : x ∈ bl := hp.mem_iff.2 (List.mem_append_right _ hx)
  exact (hc.block _ (obj_lt (H.blk x hm).1) (fun ⟨d, hd, e⟩ => (List.pairwise_append.1 nd).2.2 _ (List.mem_map.2 ⟨d, hd, rfl⟩) x hx e)).trans (H.blk x hm).1
theorem var_kept {P : Program} {ops : Array Oper} {C : World → Prop} {Q : Act → Facts → Prop} (b : Nat) : ∀ (l : List Oper) (k : Nat) (a : Act) (F : Facts), (∃ e, e ∈ F.var ∧ e.2.1 = b) → wpO P ops C Q k l a F → wpO P ops C (fun a F => (∃ e, e ∈ F.var ∧ e.2.1 = b) ∧ Q a F) k l a F
  | [], _, _, _, h, hh => ⟨h, hh⟩
  | o :: l, k, a, F, h, ⟨r, h1, h2⟩ => ⟨r, h1, fun x hx => var_kept b l (k + 1) _ _ (by
      obtain ⟨e, he, q⟩ := h
      cases r with
      | val v => exact ⟨e, he, q⟩
      | new s ob => exact ⟨e, he, q⟩
      | newv t cs => exact ⟨e, List.mem_cons_of_mem _ he, q⟩
      | put g j us =>
        obtain ⟨e1, q1, _, q2, _⟩ := mem_upd (g := g) (j := j) (us := us) he
        exact ⟨e1, q1, q2.trans q⟩) (h2 x hx)⟩
theorem vars_kept {P : Program} {ops : Array Oper} {C : World → Prop} : ∀ (D : List (Nat × TypeId × Array Value)) {Q : Act → Facts → Prop} {l : List Oper} {k : Nat} {a : Act} {F : Facts}, (∀ d, d ∈ D → ∃ e, e ∈ F.var ∧ e.2.1 = d.1) → wpO P ops C Q k l a F → wpO P ops C (fun a F => (∀ d, d ∈ D → ∃ e, e ∈ F.var ∧ e.2.1 = d.1) ∧ Q a F) k l a F
  | [], Q, l, k, a, F, _, hh => wpO_imp (fun a F h => ⟨(fun d hd => by cases hd), h⟩) l k a F hh
  | d :: D, Q, l, k, a, F, h, hh => wpO_imp (fun a F h => ⟨fun d' hd' => by
      rcases List.mem_cons.1 hd' with rfl | hd'
      · exact h.1
      · exact h.2.1 d' hd', h.2.2⟩) l k a F (var_kept d.1 l k a F (h d List.mem_cons_self) (vars_kept D (fun d' hd' => h d' (List.mem_cons_of_mem _ hd')) hh))
where
  wpO_imp {P : Program} {ops : Array Oper} {C : World → Prop} {Q Q' : Act → Facts → Prop} (h : ∀ a F, Q a F → Q' a F) : ∀ (l : List Oper) (k : Nat) (a : Act) (F : Facts), wpO P ops C Q k l a F → wpO P ops C Q' k l a F
    | [], _, _, _, hh => h _ _ hh
    | o :: l, k, a, F, ⟨r, h1, h2⟩ => ⟨r, h1, fun x hx => wpO_imp h l (k + 1) _ _ (h2 x hx)⟩
theorem ko_region {P : Program} {id : Nat} {Q' : Exit → Act → World → Prop} {a : Act} {l : List Oper} (D : List (Nat × TypeId × Array Value)) (H : Fr M A w W bl p) (hp : bl.Perm (D.map (fun d => (d.1, Obj.cells d.2.2 d.2.1 (0, 0))) ++ bl0)) (hm : P.follows .mixedOrders = true) (hB : Region.lexB .any l.toArray = true)
    (h : (∀ w', Chg (inD D) W w' → Rd bl0 p w') → wpO P l.toArray (Chg (inD D) W) (fun a' F => ∀ w', Fr M A w w' (F.var.map cv ++ bl0) p → Q' .normal a' w') 0 l a ⟨[], vars l.length D, []⟩) : (Code.region id l.toArray true).wp P Q' a W := by
  have nd := nd_perm hp H.nd
  have hF : holds ⟨[], vars l.length D, []⟩ W := ⟨(fun p hp => by cases hp), fun e he => by
    obtain ⟨d, hd, rfl⟩ := List.mem_map.1 he
    exact (H.blk _ (hp.mem_iff.2 (List.mem_append_left _ (List.mem_map.2 ⟨d, hd, rfl⟩)))).1⟩
  have hs : Sep ⟨[], vars l.length D, []⟩ := ⟨(fun p hp => by cases hp), by
    have h1 := (List.pairwise_append.1 nd).1
    rw [List.pairwise_map] at h1
    simp only [vars, List.map_map, List.Nodup, List.pairwise_map]
    exact h1⟩
  refine wp_region_O (upC_chg (D := inD D) (W0 := W)) ⟨[], vars l.length D, []⟩ hm hB (Chg.refl _ _) hF hs (fun e he => by
    obtain ⟨d, hd, rfl⟩ := List.mem_map.1 he
    exact .inl ⟨d, hd, rfl⟩) ?_
  exact vars_kept.wpO_imp (fun a F h w' hc hF hs hv => h.2 w' (Fr.behind H hp hc hF hs hv h.1)) _ _ _ _ (vars_kept D (fun d hd => ⟨_, List.mem_map.2 ⟨d, hd, rfl⟩, rfl⟩) (h (Fr.rd H hp)))
theorem ko_region0 {P : Program} {id : Nat} {Q' : Exit → Act → World → Prop} {a : Act} {l : List Oper} (H : Fr M A w W bl p) (hm : P.follows .mixedOrders = true) (hB : Region.lexB .any l.toArray = true)
    (h : (∀ w', Chg (inD []) W w' → Rd bl p w') → wpO P l.toArray (Chg (inD []) W) (fun a' F => ∀ w', Fr M A w w' (F.var.map cv ++ bl) p → Q' .normal a' w') 0 l a ⟨[], [], []⟩) : (Code.region id l.toArray true).wp P Q' a W :=
  ko_region [] H (List.Perm.refl _) hm hB h
theorem ko_region1 {P : Program} {id : Nat} {Q' : Exit → Act → World → Prop} {a : Act} {l : List Oper} {g n : Nat} {t : TypeId} {cs : Array Value} (H : Fr M A w W bl p) (hn : l.length = n) (h1 : Take bl g (.cells cs t (0, 0)) bl0) (hm : P.follows .mixedOrders = true) (hB : Region.lexB .any l.toArray = true)
    (h : (∀ w', Chg (inD [(g, t, cs)]) W w' → Rd bl0 p w') → wpO P l.toArray (Chg (inD [(g, t, cs)]) W) (fun a' F => ∀ w', Fr M A w w' (F.var.map cv ++ bl0) p → Q' .normal a' w') 0 l a ⟨[], [(n, g, t, cs)], []⟩) : (Code.region id l.toArray true).wp P Q' a W := by
  subst hn
  exact ko_region [(g, t, cs)] H h1.perm hm hB h
end
section
variable {P : Program} {ops : Array Oper} {C : World → Prop} {Q : Act → Facts → Prop} {k : Nat} {o : Oper} {rest : List Oper} {a : Act} {F : Facts} {v : Value} {bl bl' : List (Nat × Obj)} {p : World → Prop}
theorem kg_load {ty : TypeId} {x : Operand} (_ho : o.op = .load ty x) (h : wpO P ops C Q k (o :: rest) a F) : wpO P ops C Q k (o :: rest) a F := h
theorem kg_store {ty : TypeId} {x v : Operand} (_ho : o.op = .store ty x v) (h : wpO P ops C Q k (o :: rest) a F) : wpO P ops C Q k (o :: rest) a F := h
theorem kg_dst {N : Tmp} (_hd : o.dst = some N) (h : wpO P ops C Q k (o :: rest) a F) : wpO P ops C Q k (o :: rest) a F := h
theorem kg_call {f : FuncId} {as_ : Array Operand} {ts : Array TypeId} (_ho : o.op = .call { callee := .value (.func f), args := as_, argTypes := ts }) (h : wpO P ops C Q k (o :: rest) a F) : wpO P ops C Q k (o :: rest) a F := h
theorem ko_off (hw : Region.wanted o (yielded ops a.tmps) = false) (h : wpO P ops C Q (k + 1) rest (a.put o.dst undef) F) : wpO P ops C Q k (o :: rest) a F := ⟨.val undef, .inr ⟨hw, rfl⟩, fun _ _ => h⟩
theorem ko_take (hk : kindO o = 0) (hw : Region.wanted o (yielded ops a.tmps) = true) (hy : ∀ W, C W → (execOp a.eval o).run P W = .ok (.value v) W) (h : wpO P ops C Q (k + 1) rest (a.put o.dst v) F) : wpO P ops C Q k (o :: rest) a F :=
  ⟨.val v, .inl ⟨hw, trivial, fun W hC _ => ⟨by rw [hk]; decide, by rw [hy W hC]; exact ⟨rfl, rfl⟩⟩⟩, fun _ _ => h⟩
theorem ko_pure (hk : kindO o = 0) (hw : Region.wanted o (yielded ops a.tmps) = true) (hy : ∀ W (K : Result Next → Prop), Hid (K (.ok (.value v) W)) → K ((execOp a.eval o).run P W)) (h : wpO P ops C Q (k + 1) rest (a.put o.dst v) F) : wpO P ops C Q k (o :: rest) a F :=
  ko_take hk hw (fun W _ => hy W (fun r => r = .ok (.value v) W) (Lib.hid rfl)) h
theorem ko_cell {ty : TypeId} {x : Operand} {ad : Addr} {d : TypeDesc} (ho : o.op = .load ty x) (hw : Region.wanted o (yielded ops a.tmps) = true) (hx : a.eval x = .pointer (some ad)) (hu : P.underlying ty = some d) (hd : (match d with | .struct _ | .array _ _ => true | _ => false) = false) (hc : ∀ W, C W → W.cell? ad = some v)
    (h : wpO P ops C Q (k + 1) rest (a.put o.dst v) F) : wpO P ops C Q k (o :: rest) a F := by
  refine ko_take (by unfold kindO; rw [ho]) hw (fun W hW => ?_) h
  have hagg : (isAgg ty).run P W = .ok false W := by
    unfold isAgg
    rw [Sem.run_bind, run_underlying hu W]
    cases d <;> simp_all
  have hlv : (loadVar ty ad).run P W = .ok v W := by simp [loadVar, Sem.run_bind, hagg, hc W hW]
  unfold execOp
  simp only [ho, hx, Instr.loadAt, Instr.sureAddr, Sem.run_bind, Sem.run_pure, Result.andThen_ok, hlv]
theorem ko_cells {ty : TypeId} {x : Operand} {ad : Addr} {d : TypeDesc} {cs : List Value} (ho : o.op = .load ty x) (hw : Region.wanted o (yielded ops a.tmps) = true) (hx : a.eval x = .pointer (some ad)) (hu : P.underlying ty = some d) (hd : (match d with | .struct _ | .array _ _ => true | _ => false) = true) (hi : (P.info? ty).map (·.size) = some cs.length) (hc : ∀ W, C W → ∀ j u, cs[j]? = some u → W.cell? (ad.add j) = some u)
    (h : wpO P ops C Q (k + 1) rest (a.put o.dst (.agg cs.toArray)) F) : wpO P ops C Q k (o :: rest) a F := by
  refine ko_take (by unfold kindO; rw [ho]) hw (fun W hW => ?_) h
  have hl := run_loadCells_list (P := P) W ad cs (hc W hW)
  have hagg : (isAgg ty).run P W = .ok true W := by
    unfold isAgg
    rw [Sem.run_bind, run_underlying hu W]
    cases d <;> simp_all
  obtain ⟨i, hq, hs⟩ := Option.map_eq_some_iff.1 hi
  have hlv : (loadVar ty ad).run P W = .ok (.agg cs.toArray) W := by simp [loadVar, Sem.run_bind, hagg, sizeOf, typeInfo, hq, hs, hl]
  unfold execOp
  simp only [ho, hx, Instr.loadAt, Instr.sureAddr, Sem.run_bind, Sem.run_pure, Result.andThen_ok, hlv]
theorem ko_get (HR : ∀ W, C W → Rd bl p W) {ty : TypeId} {x : Operand} {g j : Nat} {e : TypeId} {cs : Array Value} {d : TypeDesc} (ho : o.op = .load ty x) (hw : Region.wanted o (yielded ops a.tmps) = true) (hx : a.eval x = .pointer (some ⟨g, j, none⟩)) (ha : At bl g (.cells cs e (0, 0)) (.cells cs e (0, 0)) bl') (hu : P.underlying ty = some d) (hd : (match d with | .struct _ | .array _ _ => true | _ => false) = false) (hc : cs[j]? = some v)
    (h : wpO P ops C Q (k + 1) rest (a.put o.dst v) F) : wpO P ops C Q k (o :: rest) a F :=
  ko_cell ho hw hx hu hd (fun W hW => (blk_cell ((HR W hW).at ha) j).trans hc) h
theorem ko_sub (HR : ∀ W, C W → Rd bl p W) {ty : TypeId} {x : Operand} {g j n : Nat} {e : TypeId} {cs : Array Value} {d : TypeDesc} {vs : List Value} (ho : o.op = .load ty x) (hw : Region.wanted o (yielded ops a.tmps) = true) (hx : a.eval x = .pointer (some ⟨g, j, none⟩)) (ha : At bl g (.cells cs e (0, 0)) (.cells cs e (0, 0)) bl') (hu : P.underlying ty = some d) (hd : (match d with | .struct _ | .array _ _ => true | _ => false) = true) (hi : (P.info? ty).map (·.size) = some n) (hv : (cs.toList.drop j).take n = vs) (hn : n = vs.length)
    (h : wpO P ops C Q (k + 1) rest (a.put o.dst (.agg vs.toArray)) F) : wpO P ops C Q k (o :: rest) a F := by
  refine ko_cells ho hw hx hu hd (hn ▸ hi) (fun W hW i u hu => ?_) h
  have hi : i < n := by rw [hn]; exact (List.getElem?_eq_some_iff.1 hu).1
  rw [← hv, List.getElem?_take, if_pos hi, List.getElem?_drop] at hu
  have hc := blk_cell ((HR W hW).at ha) (j + i)
  rw [show ((⟨g, j, none⟩ : Addr).add i) = ⟨g, j + i, none⟩ by
    unfold Addr.add
    split
    · rename_i h0; rw [h0]; rfl
    · rfl, hc]
  simpa using hu
theorem ko_row {n : Nat} {ob : Obj} (hk : kindO o = 0) (hw : Region.wanted o (yielded ops a.tmps) = true) (hy : ∀ W (K : Result Next → Prop), Hid (K (.ok (.value (.slice (some ⟨W.heap.size, 0, none⟩) n n)) (W.alloc ob))) → K ((execOp a.eval o).run P W))
    (h : ∀ x, wpO P ops C Q (k + 1) rest (a.put o.dst (.slice (some ⟨x, 0, none⟩) n n)) { F with fro := (k, x, ob) :: F.fro }) : wpO P ops C Q k (o :: rest) a F :=
  ⟨.new (.sl n n) ob, .inl ⟨hw, trivial, fun W hC _ => ⟨hk, hy W (fun r => r = .ok (.value (.slice (some ⟨W.heap.size, 0, none⟩) n n)) (W.alloc ob)) (Lib.hid rfl)⟩⟩, fun x _ => h x⟩
theorem ko_var {t : TypeId} {cs : Array Value} (hk : kindO o = 2) (hw : Region.wanted o (yielded ops a.tmps) = true) (hy : ∀ W (K : Result Next → Prop), Hid (K (.ok (.value (.pointer (some ⟨W.heap.size, 0, none⟩))) (W.alloc (.cells cs t (0, 0))))) → K ((execOp a.eval o).run P W))
    (h : ∀ x, wpO P ops C Q (k + 1) rest (a.put o.dst (.pointer (some ⟨x, 0, none⟩))) { F with var := (k, x, t, cs) :: F.var }) : wpO P ops C Q k (o :: rest) a F :=
  ⟨.newv t cs, .inl ⟨hw, trivial, fun W hC _ => ⟨hk, hy W (fun r => r = .ok (.value (.pointer (some ⟨W.heap.size, 0, none⟩))) (W.alloc (.cells cs t (0, 0)))) (Lib.hid rfl)⟩⟩, fun x _ => h x⟩
inductive VarAt : List (Nat × Nat × TypeId × Array Value) → Nat → Nat → TypeId → Array Value → Array Value → List (Nat × Nat × TypeId × Array Value) → Prop
  | head {q g : Nat} {t : TypeId} {cs cs' : Array Value} {l : List (Nat × Nat × TypeId × Array Value)} : VarAt ((q, g, t, cs) :: l) q g t cs cs' ((q, g, t, cs') :: l)
  | tail {x : Nat × Nat × TypeId × Array Value} {q g : Nat} {t : TypeId} {cs cs' : Array Value} {l l' : List (Nat × Nat × TypeId × Array Value)} (h : VarAt l q g t cs cs' l') : VarAt (x :: l) q g t cs cs' (x :: l')
theorem VarAt.mem {q g : Nat} {t : TypeId} {cs cs' : Array Value} {l l' : List (Nat × Nat × TypeId × Array Value)} (h : VarAt l q g t cs cs' l') : (q, g, t, cs) ∈ l := by
  induction h with
  | head => exact List.mem_cons_self
  | tail h ih => exact List.mem_cons_of_mem _ ih
theorem VarAt.turn {j q g : Nat} {us : List Value} {t : TypeId} {cs cs' : Array Value} {l l' : List (Nat × Nat × TypeId × Array Value)} (h : VarAt l q g t cs cs' l') (hs : j + us.length ≤ cs.size) (hc : cs'.toList = cs.toList.take j ++ us ++ cs.toList.drop (j + us.length)) (nd : (l.map (·.2.1)).Nodup) : upd g j us l = l' := by
  have hne : ∀ {l : List (Nat × Nat × TypeId × Array Value)}, g ∉ l.map (·.2.1) → upd g j us l = l := fun {l} hn => by
    unfold upd
    conv => rhs; rw [← List.map_id l]
    refine List.map_congr_left fun e he => ?_
    rw [if_neg (fun q => hn (List.mem_map.2 ⟨e, he, q⟩))]
    rfl
  have e : setR j us cs = cs' := by
    rw [setR_row hs]
    apply Array.ext'
    rw [hc]
  induction h with
  | head =>
    simp only [List.map_cons, List.nodup_cons] at nd
    show (if _ then _ else _) :: upd _ j us _ = _
    rw [if_pos rfl, hne nd.1, e]
  | tail h ih =>
    simp only [List.map_cons, List.nodup_cons] at nd
    have hx := nd.1
    have := ih hs hc nd.2 hne e
    show (if _ then _ else _) :: upd _ j us _ = _
    rw [this, if_neg (fun q2 => hx (by rw [q2]; exact List.mem_map.2 ⟨_, h.mem, rfl⟩))]
theorem ko_put {t e : TypeId} {x y : Operand} {q g j : Nat} {u : Value} {cs cs' : Array Value} {l0 l' : List (Nat × Nat × TypeId × Array Value)} (ho : o.op = .store t x y) (hN : o.dst = none) (hw : Region.wanted o (yielded ops a.tmps) = true) (hx : a.eval x = .pointer (some ⟨g, j, none⟩)) (hv : a.eval y = u) (ha0 : VarAt F.var q g e cs cs l0) (hq : depV ops k q = true) (hs : j + u.cells.toList.length ≤ cs.size) (hcs : cs'.toList = cs.toList.take j ++ u.cells.toList ++ cs.toList.drop (j + u.cells.toList.length)) (ha : VarAt F.var q g e cs cs' l') (hl : ∀ q, q ∈ F.log → apartR q (g, j, u.cells.toList.length)) (ht : (P.info? t).map (·.size) = some u.cells.size) (h1 : ∀ q ∈ u.cells.toList, q.oneCell' = true)
    (h : wpO P ops C Q (k + 1) rest a { F with var := l', log := (g, j, u.cells.toList.length) :: F.log }) : wpO P ops C Q k (o :: rest) a F := by
  refine ⟨.put g j u.cells.toList, .inl ⟨hw, ⟨⟨_, ha.mem, rfl, hq, hs⟩, hl⟩, fun W hC hd => ⟨⟨t, x, y, ho, hx, by rw [hv]⟩, ?_⟩⟩, fun z hz => ?_⟩
  · obtain ⟨cur, s1, s2⟩ := hd.2 _ ha.mem hq
    have hr := run_store_run (P := P) (w := W) (g := g) (o := j) (e := e) (cur := cur) t u u.cells.toList s1 rfl (by rw [ht, Array.length_toList]) (by rw [s2]; exact hs) h1
    unfold execOp
    simp only [ho, hx, hv, hr, Sem.run_bind, Sem.run_pure, Result.andThen_ok]
    first | exact ⟨rfl, rfl⟩ | exact rfl | trivial
  · have e1 := ha.turn hs hcs (by have := (sep_less hz.1).2; exact this)
    have e2 : (Res.put g j u.cells.toList).facts k z F = { F with var := l', log := (g, j, u.cells.toList.length) :: F.log } := by
      show Facts.mk _ _ _ = _
      rw [e1]
    rw [e2, hN]
    exact h
theorem ko_call (f : FuncId) (args : Array Value) {fn : Func} {as_ : Array Operand} {ts : Array TypeId} (hop : o.op = .call { callee := .value (.func f), args := as_, argTypes := ts }) (hw : Region.wanted o (yielded ops a.tmps) = true) (hf : P.funcs[f]? = some fn) (hname : (fn.name == "runtime.NumGoroutine") = false) (hb : fn.body.isSome = true) (hi : P.inits.idxOf? f = none) (hargs : as_.map a.eval = args)
    (hc : ∀ W, C W → depH ops k F W → Calls P f args W fun e w' => e = .returned v ∧ Below W.heap.size W w')
    (h : wpO P ops C Q (k + 1) rest (a.put o.dst v) F) : wpO P ops C Q k (o :: rest) a F := by
  refine ⟨.val v, .inl ⟨hw, trivial, fun W hC hd => ⟨by unfold kindO; rw [hop]; show (0 : Nat) ≠ 1; decide, ?_⟩⟩, fun _ _ => h⟩
  have he := enters_ hf hname hb args W
  have hrun : (execOp a.eval o).run P W = .ok (.enter f args) W := by
    unfold execOp
    simp [hop, resolve, Deferred.ofValue, invoke, Act.eval, hargs, he]
  rw [hrun]
  exact ⟨rfl, hi, hc W hC hd⟩
theorem depH.hd {j x : Nat} {ob : Obj} {fro : List (Nat × Nat × Obj)} {vr : List (Nat × Nat × TypeId × Array Value)} {lg : List (Nat × Nat × Nat)} {W : World} (h : depH ops k ⟨(j, x, ob) :: fro, vr, lg⟩ W) (hd : depB ops k j = true) : W.heap[x]? = some ob := h.1 _ List.mem_cons_self hd
theorem depH.tl {q : Nat × Nat × Obj} {fro : List (Nat × Nat × Obj)} {vr : List (Nat × Nat × TypeId × Array Value)} {lg : List (Nat × Nat × Nat)} {W : World} (h : depH ops k ⟨q :: fro, vr, lg⟩ W) : depH ops k ⟨fro, vr, lg⟩ W := ⟨fun p hp => h.1 p (List.mem_cons_of_mem _ hp), h.2⟩
theorem ko_end (h : Q a F) : wpO P ops C Q k [] a F := h
end
theorem results_c {P : Program} {fn : Func} {q : Tmp} {ty : TypeId} (h : fn.results = #[.cell q ty]) (tmps : Array Value) (w : World) (g : Nat) (t : TypeId) (cs : Array Value) (fr : Nat × Nat) (d : TypeDesc)
    (hp : tmps.getD q undef = .pointer (some ⟨g, 0, none⟩)) (hg : w.heap[g]? = some (.cells cs t fr))
    (hu : P.underlying ty = some d) (hd : (match d with | .struct _ | .array _ _ => true | _ => false) = true) (hi : (P.info? ty).map (·.size) = some cs.size) :
    (results fn tmps).run P w = .ok (.agg cs) w := by
  have hp' : tmps[q]?.getD undef = .pointer (some ⟨g, 0, none⟩) := by simpa using hp
  simp [results, h, hp', asAddr, run_loadVar_row w g t ty cs fr d hg hu hd hi]
theorem ints_of_block {W : World} {x : Nat} {t : TypeId} {l : List Int} (h : W.heap[x]? = some (.cells (l.map (Value.int .i64)).toArray t (0, 0))) (hl : l.length ≤ 9223372036854775807) : Kd.C (Kd.int .i64) W (some ⟨x, 0, none⟩) l.length l := by
  refine ⟨rfl, hl, fun _ => ⟨_, rfl, fun j q hq => ?_⟩⟩
  refine ⟨[.int .i64 q], rfl, rfl, fun i u hu => ?_⟩
  match i, hu with
  | 0, hu =>
    have e : Value.int .i64 q = u := by simpa using hu
    rw [← e]
    have := blk_cell h j
    show W.cell? ((⟨x, 0, none⟩ : Addr).add (j * 1 + 0)) = _
    rw [show ((⟨x, 0, none⟩ : Addr).add (j * 1 + 0)) = ⟨x, j, none⟩ by
      unfold Addr.add
      split
      · rename_i h0; simp at h0; rw [h0]
      · simp, this]
    simp [hq]
end Go.Proofs.YtbmfgcekglgliaaGreatKr

namespace Go.Proofs.YtbmfgcekglgliaaGreatPl
open Go.RowKit Go.Proofs.YtbmfgcekglgliaaGreatW.PrintWords Go.Proofs.YtbmfgcekglgliaaGreatW.PrintMore
def clip (x : Int) : Int := if x < -2305843009213693952 then -2305843009213693952 else if x > 2305843009213693952 then 2305843009213693952 else x
theorem clip_bd (x : Int) : -2305843009213693952 ≤ clip x ∧ clip x ≤ 2305843009213693952 := by unfold clip; split <;> (try split) <;> omega
theorem clip_id {x : Int} (h : -2305843009213693952 ≤ x) (h2 : x ≤ 2305843009213693952) : clip x = x := by unfold clip; rw [if_neg (by omega), if_neg (by omega)]
theorem clip_clip (x : Int) : clip (clip x) = clip x := clip_id (clip_bd x).1 (clip_bd x).2
theorem wrap_id {x : Int} (h : -9223372036854775808 ≤ x) (h2 : x ≤ 9223372036854775807) : wrap64 x = x := by unfold wrap64; omega
def one (c : Int) : Int := if clip c < 1 then 1 else clip c
theorem one_bd (c : Int) : 1 ≤ one c ∧ one c ≤ 2305843009213693952 := by have := clip_bd c; unfold one; split <;> omega
def dv (a c : Int) : Int := clip a / one c
def md (a c : Int) : Int := clip a % one c
theorem tdown {a c : Int} (hc : 0 < c) : (a.tmod c < 0 → a.tdiv c - 1 = a / c ∧ a.tmod c + c = a % c) ∧ (¬ a.tmod c < 0 → a.tdiv c = a / c ∧ a.tmod c = a % c) := by
  have h1 : c * a.tdiv c + a.tmod c = a := Int.mul_tdiv_add_tmod a c
  have h3 : a.tmod c < c := Int.tmod_lt_of_pos a hc
  have h4 : -c < a.tmod c := by
    have := Int.lt_tmod_of_pos a hc
    omega
  constructor
  · intro h
    have := (Int.ediv_emod_unique (a := a) (r := a.tmod c + c) (q := a.tdiv c - 1) hc).2 ⟨by rw [Int.mul_sub]; omega, by omega, by omega⟩
    exact ⟨this.1.symm, this.2.symm⟩
  · intro h
    have := (Int.ediv_emod_unique (a := a) (r := a.tmod c) (q := a.tdiv c) hc).2 ⟨by omega, by omega, by omega⟩
    exact ⟨this.1.symm, this.2.symm⟩
theorem tdiv_bd {a c : Int} (hc : 1 ≤ c) (h1 : -2305843009213693952 ≤ a) (h2 : a ≤ 2305843009213693952) : -2305843009213693952 ≤ a.tdiv c ∧ a.tdiv c ≤ 2305843009213693953 := by
  have e1 : -2305843009213693952 ≤ a / c := Int.le_ediv_of_mul_le (by omega) (by
      have : -2305843009213693952 * c ≤ -2305843009213693952 * 1 := Int.mul_le_mul_of_nonpos_left (by omega) (by omega)
      omega)
  have e2 : a / c ≤ 2305843009213693952 := by
    refine Int.le_trans (Int.ediv_le_ediv (by omega) h2) ?_
    exact Int.ediv_le_self _ (by omega)
  have h := tdown (a := a) (c := c) (by omega)
  by_cases g : a.tmod c < 0
  · have := h.1 g; omega
  · have := h.2 g; omega
theorem tmod_bd {a c : Int} (hc : 1 ≤ c) : -c < a.tmod c ∧ a.tmod c < c := ⟨by have := Int.lt_tmod_of_pos a (show 0 < c by omega); omega, Int.tmod_lt_of_pos a (by omega)⟩
theorem drop_at {α : Type} (d : α) (l : List α) (i : Int) (h0 : 0 ≤ i) (h1 : i < (l.length : Int)) : l.drop i.toNat = l.getD i.toNat d :: l.drop (i + 1).toNat := by
  have hl : i.toNat < l.length := by omega
  rw [show (i + 1).toNat = i.toNat + 1 by omega, List.getD_eq_getElem?_getD, List.getElem?_eq_getElem hl]
  exact List.drop_eq_getElem_cons hl
theorem drop_end {α : Type} (l : List α) (i : Int) (h : (l.length : Int) ≤ i) : l.drop i.toNat = [] := List.drop_eq_nil_of_le (by omega)
def IsNext (D : Int) (l : List Int) (r : Int) : Prop :=
  (r = D + 1 ∧ ∀ x, x ∈ l → ¬ (0 ≤ x ∧ x < D)) ∨ (∃ m, m ∈ l ∧ 0 ≤ m ∧ m < D ∧ r = m + 1 ∧ ∀ x, x ∈ l → 0 ≤ x → x < D → m ≤ x)
theorem IsNext.perm {D : Int} {l l' : List Int} {r : Int} (h : IsNext D l r) (hp : ∀ x, x ∈ l' ↔ x ∈ l) : IsNext D l' r := by
  rcases h with ⟨rfl, h⟩ | ⟨m, hm, h0, h1, rfl, h⟩
  · exact .inl ⟨rfl, fun x hx => h x ((hp x).1 hx)⟩
  · exact .inr ⟨m, (hp m).2 hm, h0, h1, rfl, fun x hx => h x ((hp x).1 hx)⟩
section
variable {α : Type} (us : α → Bool) (lt : α → α → Bool)
variable {us lt}
end
theorem lsA {α : Type} (l : List α) (i : Nat) (a : α) : l.toArray.setIfInBounds i a = (l.set i a).toArray := List.setIfInBounds_toArray ..
theorem lsZ {α : Type} {x : α} {xs : List α} {a : α} : (x :: xs).set 0 a = a :: xs := rfl
theorem lsS {α : Type} {x : α} {xs : List α} {i : Nat} {a : α} : (x :: xs).set (i + 1) a = x :: xs.set i a := rfl
end Go.Proofs.YtbmfgcekglgliaaGreatPl

namespace Go.Proofs.YtbmfgcekglgliaaGreat.G
open Go.RowKit Go.Proofs.YtbmfgcekglgliaaGreatW.PrintWords Go.Proofs.YtbmfgcekglgliaaGreatW.PrintLast Go.Proofs.YtbmfgcekglgliaaGreatW.PrintMore Go.Proofs.YtbmfgcekglgliaaGreatPl
set_option linter.unusedVariables false
set_option linter.unusedSimpArgs false
def bound (x lo hi : Int) : Int := if x < lo ∨ hi < lo then lo else if x > hi then hi else x
theorem bound_clip (x : Int) : bound x (-2305843009213693952) 2305843009213693952 = clip x := by
  unfold bound clip
  by_cases h : x < -2305843009213693952
  · rw [if_pos (.inl h), if_pos h]
  · rw [if_neg (by omega), if_neg h]
def ssub (a b : Int) : Int := clip (clip a - clip b)
def sneg (a : Int) : Int := -clip a
def sabs (a : Int) : Int := if a < 0 then sneg a else clip a
theorem sabs_bd (a : Int) : 0 ≤ sabs a ∧ sabs a ≤ 2305843009213693952 := by
  have := clip_bd a
  unfold sabs sneg
  split
  · have : clip a ≤ 0 := by unfold clip; repeat' split <;> omega
    omega
  · have : 0 ≤ clip a := by unfold clip; repeat' split <;> omega
    omega
def smul (a b : Int) : Int :=
  let x := sabs a
  let y := sabs b
  let p := if x = 0 ∨ y ≤ 2305843009213693952 / x then x * y else 2305843009213693952
  if decide (a < 0) = decide (b < 0) then p else -p
def sadd (l : List Int) : Int := l.foldl (fun n x => clip (n + clip x)) 0
def smax (l : List Int) : Int := l.foldl (fun n x => if n < clip x then clip x else n) (-2305843009213693952)
set_option maxHeartbeats 1000000 in
theorem Bound_calls (x lo hi : Int) (w : World) : Calls Tryz.prog 51 #[.int .i64 x, .int .i64 lo, .int .i64 hi] w fun e w' => e = .returned (.int .i64 (bound x lo hi)) ∧ w' = w := by
  by_cases h1 : x < lo
  · have hb := Lib.hid (show bound x lo hi = lo by unfold bound; rw [if_pos (.inl h1)])
    have d1 : decide (x < lo) = true := decide_eq_true h1
    clear h1
    go_enter Tryz.func51, Tryz.ntmps51
    go_wp2
    go_ret
    exact ⟨(by rw [hb.out]; try rfl), rfl⟩
  · by_cases h2 : hi < lo
    · have hb := Lib.hid (show bound x lo hi = lo by unfold bound; rw [if_pos (.inr h2)])
      have d1 : decide (x < lo) = false := decide_eq_false h1
      have d2 : decide (hi < lo) = true := decide_eq_true h2
      clear h1 h2
      go_enter Tryz.func51, Tryz.ntmps51
      go_wp2
      go_ret
      exact ⟨(by rw [hb.out]; try rfl), rfl⟩
    · have d1 : decide (x < lo) = false := decide_eq_false h1
      have d2 : decide (hi < lo) = false := decide_eq_false h2
      by_cases h3 : hi < x
      · have hb := Lib.hid (show bound x lo hi = hi by unfold bound; rw [if_neg (by omega), if_pos h3])
        have d3 : decide (hi < x) = true := decide_eq_true h3
        clear h1 h2 h3
        go_enter Tryz.func51, Tryz.ntmps51
        go_wp2
        go_ret
        exact ⟨(by rw [hb.out]; try rfl), rfl⟩
      · have hb := Lib.hid (show bound x lo hi = x by unfold bound; rw [if_neg (by omega), if_neg (by omega)])
        have d3 : decide (hi < x) = false := decide_eq_false h3
        clear h1 h2 h3
        go_enter Tryz.func51, Tryz.ntmps51
        go_wp2
        go_ret
        exact ⟨(by rw [hb.out]; try rfl), rfl⟩
theorem Clip_calls (x : Int) (w : World) : Calls Tryz.prog 50 #[.int .i64 x] w fun e w' => e = .returned (.int .i64 (clip x)) ∧ w' = w := by
  have hb := Lib.hid (bound_clip x)
  go_enter Tryz.func50, Tryz.ntmps50
  go_wp2_with (go_at_call 51; refine (Bound_calls _ _ _ _).mono ?_; rintro e w' ⟨rfl, rfl⟩)
  go_ret
  exact ⟨by rw [← hb.out]; rfl, rfl⟩
theorem Neg_calls (x : Int) (w : World) : Calls Tryz.prog 60 #[.int .i64 x] w fun e w' => e = .returned (.int .i64 (sneg x)) ∧ w' = w := by
  have hb := clip_bd x
  have hb1 := hb.1
  have hb2 := hb.2
  have hn := Lib.hid (show sneg x = -clip x from rfl)
  clear hb
  go_enter Tryz.func60, Tryz.ntmps60
  go_wp2_with (go_at_call 50; refine (Clip_calls _ _).mono ?_; rintro e w' ⟨rfl, rfl⟩)
  go_ret
  exact ⟨(by rw [hn.out]; try rfl), rfl⟩
theorem Abs_calls (x : Int) (w : World) : Calls Tryz.prog 63 #[.int .i64 x] w fun e w' => e = .returned (.int .i64 (sabs x)) ∧ w' = w := by
  by_cases h1 : x < 0
  · have hb := Lib.hid (show sabs x = sneg x by unfold sabs; rw [if_pos h1])
    have d1 : decide (x < 0) = true := decide_eq_true h1
    clear h1
    go_enter Tryz.func63, Tryz.ntmps63
    go_wp2_with (go_at_call 60; refine (Neg_calls _ _).mono ?_; rintro e w' ⟨rfl, rfl⟩)
    go_ret
    exact ⟨(by rw [hb.out]; try rfl), rfl⟩
  · have hb := Lib.hid (show sabs x = clip x by unfold sabs; rw [if_neg h1])
    have d1 : decide (x < 0) = false := decide_eq_false h1
    clear h1
    go_enter Tryz.func63, Tryz.ntmps63
    go_wp2_with (go_at_call 50; refine (Clip_calls _ _).mono ?_; rintro e w' ⟨rfl, rfl⟩)
    go_ret
    exact ⟨(by rw [hb.out]; try rfl), rfl⟩
set_option maxHeartbeats 1000000 in
theorem Sub_calls (x y : Int) (w : World) : Calls Tryz.prog 58 #[.int .i64 x, .int .i64 y] w fun e w' => e = .returned (.int .i64 (ssub x y)) ∧ w' = w := by
  have h1 := (clip_bd x).1
  have h2 := (clip_bd x).2
  have h3 := (clip_bd y).1
  have h4 := (clip_bd y).2
  have hn := Lib.hid (show ssub x y = clip (clip x - clip y) from rfl)
  go_enter Tryz.func58, Tryz.ntmps58
  go_wp2_with (go_at_call 50; refine (Clip_calls _ _).mono ?_; rintro e w' ⟨rfl, rfl⟩)
  go_ret
  exact ⟨(by rw [hn.out]; try rfl), rfl⟩
theorem smul_prod {a b : Int} (h : sabs a = 0 ∨ sabs b ≤ 2305843009213693952 / sabs a) : 0 ≤ sabs a * sabs b ∧ sabs a * sabs b ≤ 2305843009213693952 := by
  have h1 := sabs_bd a
  have h3 := sabs_bd b
  refine ⟨Int.mul_nonneg h1.1 h3.1, ?_⟩
  rcases h with h | h
  · rw [h]; omega
  · by_cases h0 : sabs a = 0
    · rw [h0]; omega
    · have h6 : sabs a * sabs b ≤ sabs a * (2305843009213693952 / sabs a) := Int.mul_le_mul_of_nonneg_left h h1.1
      have h7 := Int.mul_ediv_self_le (x := 2305843009213693952) (k := sabs a) h0
      omega
set_option maxHeartbeats 4000000 in
theorem Mul_calls (a b : Int) (w : World) : Calls Tryz.prog 92 #[.int .i64 a, .int .i64 b] w fun e w' => e = .returned (.int .i64 (smul a b)) ∧ w' = w := by
  have h1 := (sabs_bd a).1
  have h2 := (sabs_bd a).2
  have h3 := (sabs_bd b).1
  have h4 := (sabs_bd b).2
  have hn : smul a b = if decide (a < 0) = decide (b < 0) then (if sabs a = 0 ∨ sabs b ≤ 2305843009213693952 / sabs a then sabs a * sabs b else 2305843009213693952) else -(if sabs a = 0 ∨ sabs b ≤ 2305843009213693952 / sabs a then sabs a * sabs b else 2305843009213693952) := rfl
  obtain ⟨ba, hba⟩ : ∃ c, decide (a < 0) = c := ⟨_, rfl⟩
  obtain ⟨bb, hbb⟩ : ∃ c, decide (b < 0) = c := ⟨_, rfl⟩
  rw [hba, hbb] at hn
  by_cases hx : sabs a = 0
  · obtain ⟨p0, p1⟩ := smul_prod (b := b) (.inl hx)
    have dx : (sabs a == 0) = true := beq_iff_eq.2 hx
    simp only [if_pos (Or.inl (b := sabs b ≤ 2305843009213693952 / sabs a) hx)] at hn
    have HN := Lib.hid hn
    clear hn hx
    cases ba <;> cases bb
    all_goals
      go_enter Tryz.func92, Tryz.ntmps92
      go_wp2_with (go_at_call 63; refine (Abs_calls _ _).mono ?_; rintro e w' ⟨rfl, rfl⟩)
      go_ret
      exact ⟨(by rw [HN.out]; try rfl), rfl⟩
  · have dx : (sabs a == 0) = false := beq_eq_false_iff_ne.2 hx
    have hx1 : 1 ≤ sabs a := by omega
    have hq : (2305843009213693952 : Int).tdiv (sabs a) = 2305843009213693952 / sabs a := Int.tdiv_eq_ediv_of_nonneg (by omega)
    have hq0 : 0 ≤ (2305843009213693952 : Int) / sabs a := Int.ediv_nonneg (by omega) (by omega)
    have hq1 : (2305843009213693952 : Int) / sabs a ≤ 2305843009213693952 := Int.ediv_le_self _ (by omega)
    by_cases hy : sabs b ≤ 2305843009213693952 / sabs a
    · obtain ⟨p0, p1⟩ := smul_prod (a := a) (b := b) (.inr hy)
      have dy : decide (sabs b ≤ 2305843009213693952 / sabs a) = true := decide_eq_true hy
      simp only [if_pos (Or.inr (a := sabs a = 0) hy)] at hn
      have HN := Lib.hid hn
      clear hn hy hx
      cases ba <;> cases bb
      all_goals
        go_enter Tryz.func92, Tryz.ntmps92
        go_wp2_with (go_at_call 63; refine (Abs_calls _ _).mono ?_; rintro e w' ⟨rfl, rfl⟩)
        go_ret
        exact ⟨(by rw [HN.out]; try rfl), rfl⟩
    · have dy : decide (sabs b ≤ 2305843009213693952 / sabs a) = false := decide_eq_false hy
      have hc : ¬ (sabs a = 0 ∨ sabs b ≤ 2305843009213693952 / sabs a) := fun h => h.elim hx hy
      simp only [if_neg hc] at hn
      have HN := Lib.hid hn
      clear hn hy hx
      cases ba <;> cases bb
      all_goals
        go_enter Tryz.func92, Tryz.ntmps92
        go_wp2_with (go_at_call 63; refine (Abs_calls _ _).mono ?_; rintro e w' ⟨rfl, rfl⟩)
        go_ret
        exact ⟨(by rw [HN.out]; try rfl), rfl⟩
end Go.Proofs.YtbmfgcekglgliaaGreat.G

namespace Go.Proofs.YtbmfgcekglgliaaGreat.G
open Go.RowKit Go.Proofs.YtbmfgcekglgliaaGreatW.PrintWords Go.Proofs.YtbmfgcekglgliaaGreatW.PrintLast Go.Proofs.YtbmfgcekglgliaaGreatW.PrintMore Go.Proofs.YtbmfgcekglgliaaGreatPl
set_option linter.unusedVariables false
set_option linter.unusedSimpArgs false
theorem getD_cell {l : List Int} {i : Nat} (h : i < l.length) : rd l (i : Int) = l[i] := by
  unfold rd; simp [List.getD_eq_getElem?_getD, h]
theorem sadd_bd (l : List Int) : -2305843009213693952 ≤ sadd l ∧ sadd l ≤ 2305843009213693952 := by
  have : ∀ (l : List Int) (n : Int), -2305843009213693952 ≤ n → n ≤ 2305843009213693952 → -2305843009213693952 ≤ l.foldl (fun n x => clip (n + clip x)) n ∧ l.foldl (fun n x => clip (n + clip x)) n ≤ 2305843009213693952 := by
    intro l
    induction l with
    | nil => intro n h1 h2; exact ⟨h1, h2⟩
    | cons a l ih => intro n _ _; exact ih _ (clip_bd _).1 (clip_bd _).2
  exact this l 0 (by omega) (by omega)
theorem sadd_snoc (l : List Int) (x : Int) : sadd (l ++ [x]) = clip (sadd l + clip x) := by unfold sadd; rw [List.foldl_append]; rfl
theorem smax_snoc (l : List Int) (x : Int) : smax (l ++ [x]) = (if smax l < clip x then clip x else smax l) := by unfold smax; rw [List.foldl_append]; rfl
set_option maxHeartbeats 1000000 in
theorem Add_calls (A : Option Addr) (c : Nat) (l : List Int) (w : World) (hr : Kd.C (Kd.int .i64) w A l.length l) :
    Calls Tryz.prog 52 #[.slice A l.length c] w fun e w' => e = .returned (.int .i64 (sadd l)) ∧ w' = w := by
  have R := Lib.hid hr
  have hm : l.length ≤ 9223372036854775807 := hr.2.1
  obtain ⟨n, hn⟩ : ∃ n, l.length = n := ⟨_, rfl⟩
  have HN := Lib.hid hn
  rw [hn] at hm ⊢
  clear hr hn
  go_enter Tryz.func52, Tryz.ntmps52
  go_wp2
  go_loop [3, 8] (fun v3 v8 => ∃ k : Nat, k ≤ n ∧ v8 = .int .i64 k ∧ v3 = .int .i64 (sadd (l.take k))) (fun _ v8 => n - (intOf v8).toNat)
  case atStart => exact ⟨0, by omega, rfl, rfl⟩
  case round =>
    obtain ⟨k, hk, rfl, rfl⟩ := hrel
    have hb1 := (sadd_bd (l.take k)).1
    have hb2 := (sadd_bd (l.take k)).2
    by_cases hlt : k < n
    · have hkl : k < l.length := by rw [HN.out]; exact hlt
      have hk1 : (k : Int) < (n : Int) := by omega
      have hs1 : -9223372036854775808 ≤ (k : Int) + 1 := by omega
      have hs2 : (k : Int) + 1 ≤ 9223372036854775807 := by omega
      obtain ⟨ad, e, hc⟩ := Kd.at_int R.out (k : Int) (by omega) (by omega)
      cases e
      rw [getD_cell hkl, Int.toNat_natCast] at hc
      have HT := Lib.hid (show sadd (l.take (k + 1)) = clip (sadd (l.take k) + clip l[k]) by rw [List.take_succ_eq_append_getElem hkl, sadd_snoc])
      have hc1 := (clip_bd l[k]).1
      have hc2 := (clip_bd l[k]).2
      generalize sadd (l.take k) = s at hb1 hb2 HT ⊢
      generalize l[k] = x at hc HT hc1 hc2
      go_wp2_with (go_at_call 50; refine (Clip_calls _ _).mono ?_; rintro e w' ⟨rfl, rfl⟩)
      go_round
      case rel => exact ⟨k + 1, by omega, by simp, by rw [HT.out]⟩
      case measure => simp [intOf]; omega
    · obtain rfl : k = n := by omega
      have HT := Lib.hid (show sadd l = sadd (l.take k) by rw [List.take_of_length_le (by rw [HN.out]; exact Nat.le_refl _)])
      go_wp2
      go_ret
      exact ⟨(by rw [HT.out]; try rfl), rfl⟩
set_option maxHeartbeats 1000000 in
theorem Max_calls (A : Option Addr) (c : Nat) (l : List Int) (w : World) (hr : Kd.C (Kd.int .i64) w A l.length l) :
    Calls Tryz.prog 94 #[.slice A l.length c] w fun e w' => e = .returned (.int .i64 (smax l)) ∧ w' = w := by
  have R := Lib.hid hr
  have hm : l.length ≤ 9223372036854775807 := hr.2.1
  obtain ⟨n, hn⟩ : ∃ n, l.length = n := ⟨_, rfl⟩
  have HN := Lib.hid hn
  rw [hn] at hm ⊢
  clear hr hn
  go_enter Tryz.func94, Tryz.ntmps94
  go_wp2
  go_loop [3, 8] (fun v3 v8 => ∃ k : Nat, k ≤ n ∧ v8 = .int .i64 k ∧ v3 = .int .i64 (smax (l.take k))) (fun _ v8 => n - (intOf v8).toNat)
  case atStart => exact ⟨0, by omega, rfl, rfl⟩
  case round =>
    obtain ⟨k, hk, rfl, rfl⟩ := hrel
    by_cases hlt : k < n
    · have hkl : k < l.length := by rw [HN.out]; exact hlt
      have hk1 : (k : Int) < (n : Int) := by omega
      have hs1 : -9223372036854775808 ≤ (k : Int) + 1 := by omega
      have hs2 : (k : Int) + 1 ≤ 9223372036854775807 := by omega
      obtain ⟨ad, e, hc⟩ := Kd.at_int R.out (k : Int) (by omega) (by omega)
      cases e
      rw [getD_cell hkl, Int.toNat_natCast] at hc
      have HT := Lib.hid (show smax (l.take (k + 1)) = if smax (l.take k) < clip l[k] then clip l[k] else smax (l.take k) by rw [List.take_succ_eq_append_getElem hkl, smax_snoc])
      generalize smax (l.take k) = s at HT ⊢
      generalize l[k] = x at hc HT
      go_wp2_with (go_at_call 50; refine (Clip_calls _ _).mono ?_; rintro e w' ⟨rfl, rfl⟩)
      go_round
      case rel => exact ⟨k + 1, by omega, by simp, by rw [HT.out]; try rfl⟩
      case measure => simp [intOf]; omega
    · obtain rfl : k = n := by omega
      have HT := Lib.hid (show smax l = smax (l.take k) by rw [List.take_of_length_le (by rw [HN.out]; exact Nat.le_refl _)])
      go_wp2
      go_ret
      exact ⟨(by rw [HT.out]; try rfl), rfl⟩
theorem Add2 {x t : Nat} {a b : Int} {w : World} (h : w.heap[x]? = some (.cells #[.int .i64 a, .int .i64 b] t (0, 0))) : Calls Tryz.prog 52 #[.slice (some ⟨x, 0, none⟩) 2 2] w fun e w' => e = .returned (.int .i64 (sadd [a, b])) ∧ Below w.heap.size w w' :=
  (Add_calls (some ⟨x, 0, none⟩) 2 [a, b] w (Go.Proofs.YtbmfgcekglgliaaGreatKr.ints_of_block (l := [a, b]) h (by show _ ≤ _; simp))).mono fun e w' ⟨h1, h2⟩ => ⟨h1, h2 ▸ Below.refl _ _⟩
theorem Add3 {x t : Nat} {a b c : Int} {w : World} (h : w.heap[x]? = some (.cells #[.int .i64 a, .int .i64 b, .int .i64 c] t (0, 0))) : Calls Tryz.prog 52 #[.slice (some ⟨x, 0, none⟩) 3 3] w fun e w' => e = .returned (.int .i64 (sadd [a, b, c])) ∧ Below w.heap.size w w' :=
  (Add_calls (some ⟨x, 0, none⟩) 3 [a, b, c] w (Go.Proofs.YtbmfgcekglgliaaGreatKr.ints_of_block (l := [a, b, c]) h (by show _ ≤ _; simp))).mono fun e w' ⟨h1, h2⟩ => ⟨h1, h2 ▸ Below.refl _ _⟩
theorem Max2 {x t : Nat} {a b : Int} {w : World} (h : w.heap[x]? = some (.cells #[.int .i64 a, .int .i64 b] t (0, 0))) : Calls Tryz.prog 94 #[.slice (some ⟨x, 0, none⟩) 2 2] w fun e w' => e = .returned (.int .i64 (smax [a, b])) ∧ Below w.heap.size w w' :=
  (Max_calls (some ⟨x, 0, none⟩) 2 [a, b] w (Go.Proofs.YtbmfgcekglgliaaGreatKr.ints_of_block (l := [a, b]) h (by show _ ≤ _; simp))).mono fun e w' ⟨h1, h2⟩ => ⟨h1, h2 ▸ Below.refl _ _⟩
theorem ret_below {P : Program} {f : FuncId} {args : Array Value} {v : Value} {w : World} (h : Calls P f args w fun e w' => e = .returned v ∧ w' = w) : Calls P f args w fun e w' => e = .returned v ∧ Below w.heap.size w w' :=
  h.mono fun e w' ⟨h1, h2⟩ => ⟨h1, h2 ▸ Below.refl _ _⟩
end Go.Proofs.YtbmfgcekglgliaaGreat.G

namespace Go.Proofs.YtbmfgcekglgliaaGreat.G
open Go.RowKit Go.Proofs.YtbmfgcekglgliaaGreatW.PrintWords Go.Proofs.YtbmfgcekglgliaaGreatW.PrintLast Go.Proofs.YtbmfgcekglgliaaGreatW.PrintMore Go.Proofs.YtbmfgcekglgliaaGreatPl Go.Proofs.YtbmfgcekglgliaaGreatEm Go.Proofs.YtbmfgcekglgliaaGreatKr
set_option linter.unusedVariables false
set_option linter.unusedSimpArgs false
set_option maxHeartbeats 2000000 in
set_option maxRecDepth 100000 in
theorem Shift_calls (a b lo hi : Int) (w : World) : Calls Tryz.prog 59 #[.agg #[.int .i64 a, .int .i64 b], .int .i64 lo, .int .i64 hi] w fun e w' => e = .returned (.agg #[.int .i64 (sadd [a, lo]), .int .i64 (sadd [b, hi])]) ∧ Below w.heap.size w w' := by
  have H := Fr.start0 (M := fun _ => False) (A := fun _ => False) (w := w) (p := fun _ => True) (fun _ h => h.elim) (fun _ _ => trivial)
  go_enter Tryz.func59, Tryz.ntmps59
  go_wp2_with (first
    | ((with_reducible refine gate_dst (N := 3) rfl ?_); refine fr_box H rfl rfl rfl ?_; intro g3 w3 H1; replace H := H1; clear H1)
    | ((with_reducible refine gate_dst (N := 6) rfl ?_); refine fr_new H (N := 6) rfl rfl (cs := #[.int .i64 0, .int .i64 0]) (t := 25) ?hr ?_; (case hr => first | (go_simp; done) | (go_simp; rfl)); intro g6 w6 H1; replace H := H1; clear H1)
    | ((with_reducible refine gate_dst (N := 8) rfl ?_); refine fr_get H rfl rfl rfl (by repeat (first | exact At.head | apply At.tail)) Tryz.underlying3 rfl (by simp only [List.getElem?_toArray, List.getElem?_cons_succ, List.getElem?_cons_zero]; rfl) ?_)
    | ((with_reducible refine gate_dst (N := 13) rfl ?_); refine fr_get H rfl rfl rfl (by repeat (first | exact At.head | apply At.tail)) Tryz.underlying3 rfl (by simp only [List.getElem?_toArray, List.getElem?_cons_succ, List.getElem?_cons_zero]; rfl) ?_)
    | ((with_reducible refine gate_store (t := 25) (p := 6) rfl ?_); refine fr_put H rfl rfl rfl rfl rfl (by repeat (first | exact At.head | apply At.tail)) (by rfl) (by kernel_rfl) (by simp [Value.oneCell']) ?_; intro w6_ H1; replace H := H1; clear H1)
    | fail)
  refine ko_region1 H (by simp only [List.length_cons, List.length_nil, Nat.reduceAdd]; rfl) (g := g6) (by repeat (first | exact Take.head | apply Take.tail)) (by kernel_rfl) (by as_aux_lemma => kernel_rfl) (fun HR => ?_)
  repeat (first
    | ((with_reducible refine kg_call (f := 52) rfl ?_); refine ko_call 52 _ rfl (by rfl) Tryz.func52 (by kernel_rfl) rfl (by kernel_rfl) (by simp only [List.map_toArray, List.map_cons, List.map_nil]; rfl) (fun W hC hd => Add2 (by first | exact depH.hd hd (by kernel_rfl) | exact depH.hd (depH.tl hd) (by kernel_rfl) | exact depH.hd (depH.tl (depH.tl hd)) (by kernel_rfl))) ?_; (try simp only [Act.put, lsA, lsZ, lsS, Nat.reduceAdd]))
    | ((with_reducible refine kg_load (ty := 3) rfl ?_); refine ko_get HR rfl (by rfl) (by rfl) (by repeat (first | exact At.head | apply At.tail)) Tryz.underlying3 rfl (by simp only [List.getElem?_toArray, List.getElem?_cons_succ, List.getElem?_cons_zero]; rfl) ?_; (try simp only [Act.put, lsA, lsZ, lsS, Nat.reduceAdd]))
    | ((with_reducible refine kg_dst (N := 10) rfl ?_); refine ko_row rfl (by rfl) (fun W K hK => by go_simp; exact hK.out) ?_; intro x10; (try simp only [Act.put, lsA, lsZ, lsS, Nat.reduceAdd]))
    | ((with_reducible refine kg_dst (N := 15) rfl ?_); refine ko_row rfl (by rfl) (fun W K hK => by go_simp; exact hK.out) ?_; intro x15; (try simp only [Act.put, lsA, lsZ, lsS, Nat.reduceAdd]))
    | ((with_reducible refine kg_store (ty := 25) rfl ?_); refine ko_put (u := .agg (List.toArray _)) rfl rfl (by rfl) (by rfl) (by rfl) (by repeat (first | exact VarAt.head | apply VarAt.tail)) (by kernel_rfl) (Nat.le_of_ble_eq_true rfl) (by simp only [Value.cells, List.take_succ_cons, List.take_zero, List.drop_succ_cons, List.drop_zero, List.cons_append, List.nil_append, List.length_cons, List.length_nil, Nat.reduceAdd, List.append_nil, List.drop_nil, List.take_nil]; rfl) (by repeat (first | exact VarAt.head | apply VarAt.tail)) (by simp [apartR, Value.cells]) (by kernel_rfl) (by simp [Value.cells, Value.oneCell']) ?_; (try simp only [Value.cells, List.length_cons, List.length_nil, Nat.reduceAdd]))
    | (refine ko_pure rfl (by rfl) (fun W K hK => by go_simp; exact hK.out) ?_; (try simp only [Act.put, lsA, lsZ, lsS, Nat.reduceAdd]))
    | (refine ko_off (by rfl) ?_; (try simp only [Act.put, lsA, lsZ, lsS, Nat.reduceAdd])))
  refine ko_end ?_
  intro w1 H1
  clear HR H
  have H := H1
  clear H1
  (try simp only [List.map_cons, List.map_nil, cv, List.cons_append, List.nil_append] at H)
  go_wp2
  trace_state
  refine bodyPost_ret (results_c rfl _ _ g6 25 _ (0, 0) _ rfl (H.of (by repeat (first | exact At.head | apply At.tail))) Tryz.underlying25 rfl (by kernel_rfl)) rfl ?_
  exact ⟨rfl, H.below⟩
structure Par where
  (N F D Be Rho De Ji Eps Mu Ho Pu Se : Int)
set_option maxHeartbeats 2000000 in
set_option maxRecDepth 100000 in
theorem Hold_calls (p : Par) (a b ticks : Int) (w : World) : Calls Tryz.prog 32 #[.agg #[.int .i64 p.N, .int .i64 p.F, .int .i64 p.D, .int .i64 p.Be, .int .i64 p.Rho, .int .i64 p.De, .int .i64 p.Ji, .int .i64 p.Eps, .int .i64 p.Mu, .int .i64 p.Ho, .int .i64 p.Pu, .int .i64 p.Se], .agg #[.int .i64 a, .int .i64 b], .int .i64 ticks] w fun e w' => e = .returned (.agg #[.int .i64 (sadd [a, ssub ticks p.Rho]), .int .i64 (sadd [b, sadd [ticks, p.Rho]])]) ∧ Below w.heap.size w w' := by
  have H := Fr.start0 (M := fun _ => False) (A := fun _ => False) (w := w) (p := fun _ => True) (fun _ h => h.elim) (fun _ _ => trivial)
  go_enter Tryz.func32, Tryz.ntmps32
  go_wp2_with (first
    | ((with_reducible refine gate_dst (N := 3) rfl ?_); refine fr_box H rfl rfl rfl ?_; intro g3 w3 H1; replace H := H1; clear H1)
    | ((with_reducible refine gate_dst (N := 4) rfl ?_); refine fr_box H rfl rfl rfl ?_; intro g4 w4 H1; replace H := H1; clear H1)
    | ((with_reducible refine gate_dst (N := 6) rfl ?_); refine fr_new H (N := 6) rfl rfl (cs := #[.int .i64 0, .int .i64 0]) (t := 25) ?hr ?_; (case hr => first | (go_simp; done) | (go_simp; rfl)); intro g6 w6 H1; replace H := H1; clear H1)
    | ((with_reducible refine gate_dst (N := 7) rfl ?_); refine fr_load H rfl rfl rfl (by repeat (first | exact At.head | apply At.tail)) Tryz.underlying25 rfl (by kernel_rfl) ?_)
    | ((with_reducible refine gate_dst (N := 10) rfl ?_); refine fr_get H rfl rfl rfl (by repeat (first | exact At.head | apply At.tail)) Tryz.underlying3 rfl (by simp only [List.getElem?_toArray, List.getElem?_cons_succ, List.getElem?_cons_zero]; rfl) ?_)
    | ((with_reducible refine gate_dst (N := 14) rfl ?_); refine fr_get H rfl rfl rfl (by repeat (first | exact At.head | apply At.tail)) Tryz.underlying3 rfl (by simp only [List.getElem?_toArray, List.getElem?_cons_succ, List.getElem?_cons_zero]; rfl) ?_)
    | ((with_reducible refine gate_store (t := 25) (p := 6) rfl ?_); refine fr_put H rfl rfl rfl rfl rfl (by repeat (first | exact At.head | apply At.tail)) (by rfl) (by kernel_rfl) (by simp [Value.oneCell']) ?_; intro w6_ H1; replace H := H1; clear H1)
    | fail)
  refine ko_region1 H (by simp only [List.length_cons, List.length_nil, Nat.reduceAdd]; rfl) (g := g6) (by repeat (first | exact Take.head | apply Take.tail)) (by kernel_rfl) (by as_aux_lemma => kernel_rfl) (fun HR => ?_)
  repeat (first
    | ((with_reducible refine kg_call (f := 52) rfl ?_); refine ko_call 52 _ rfl (by rfl) Tryz.func52 (by kernel_rfl) rfl (by kernel_rfl) (by simp only [List.map_toArray, List.map_cons, List.map_nil]; rfl) (fun W hC hd => Add2 (by first | exact depH.hd hd (by kernel_rfl) | exact depH.hd (depH.tl hd) (by kernel_rfl) | exact depH.hd (depH.tl (depH.tl hd)) (by kernel_rfl))) ?_; (try simp only [Act.put, lsA, lsZ, lsS, Nat.reduceAdd]))
    | ((with_reducible refine kg_call (f := 58) rfl ?_); refine ko_call 58 _ rfl (by rfl) Tryz.func58 (by kernel_rfl) rfl (by kernel_rfl) (by simp only [List.map_toArray, List.map_cons, List.map_nil]; rfl) (fun W hC hd => ret_below (Sub_calls _ _ _)) ?_; (try simp only [Act.put, lsA, lsZ, lsS, Nat.reduceAdd]))
    | ((with_reducible refine kg_call (f := 59) rfl ?_); refine ko_call 59 _ rfl (by rfl) Tryz.func59 (by kernel_rfl) rfl (by kernel_rfl) (by simp only [List.map_toArray, List.map_cons, List.map_nil]; rfl) (fun W hC hd => Shift_calls _ _ _ _ _) ?_; (try simp only [Act.put, lsA, lsZ, lsS, Nat.reduceAdd]))
    | ((with_reducible refine kg_load (ty := 25) rfl ?_); refine ko_sub HR (n := 2) rfl (by rfl) (by rfl) (by repeat (first | exact At.head | apply At.tail)) Tryz.underlying25 rfl (by kernel_rfl) (by simp only [List.toList_toArray, List.drop_succ_cons, List.drop_zero, List.take_succ_cons, List.take_zero]; rfl) (by rfl) ?_; (try simp only [Act.put, lsA, lsZ, lsS, Nat.reduceAdd]))
    | ((with_reducible refine kg_load (ty := 3) rfl ?_); refine ko_get HR rfl (by rfl) (by rfl) (by repeat (first | exact At.head | apply At.tail)) Tryz.underlying3 rfl (by simp only [List.getElem?_toArray, List.getElem?_cons_succ, List.getElem?_cons_zero]; rfl) ?_; (try simp only [Act.put, lsA, lsZ, lsS, Nat.reduceAdd]))
    | ((with_reducible refine kg_dst (N := 15) rfl ?_); refine ko_row rfl (by rfl) (fun W K hK => by go_simp; exact hK.out) ?_; intro x15; (try simp only [Act.put, lsA, lsZ, lsS, Nat.reduceAdd]))
    | ((with_reducible refine kg_store (ty := 25) rfl ?_); refine ko_put (u := .agg (List.toArray _)) rfl rfl (by rfl) (by rfl) (by rfl) (by repeat (first | exact VarAt.head | apply VarAt.tail)) (by kernel_rfl) (Nat.le_of_ble_eq_true rfl) (by simp only [Value.cells, List.take_succ_cons, List.take_zero, List.drop_succ_cons, List.drop_zero, List.cons_append, List.nil_append, List.length_cons, List.length_nil, Nat.reduceAdd, List.append_nil, List.drop_nil, List.take_nil]; rfl) (by repeat (first | exact VarAt.head | apply VarAt.tail)) (by simp [apartR, Value.cells]) (by kernel_rfl) (by simp [Value.cells, Value.oneCell']) ?_; (try simp only [Value.cells, List.length_cons, List.length_nil, Nat.reduceAdd]))
    | (refine ko_pure rfl (by rfl) (fun W K hK => by go_simp; exact hK.out) ?_; (try simp only [Act.put, lsA, lsZ, lsS, Nat.reduceAdd]))
    | (refine ko_off (by rfl) ?_; (try simp only [Act.put, lsA, lsZ, lsS, Nat.reduceAdd])))
  refine ko_end ?_
  intro w1 H1
  clear HR H
  have H := H1
  clear H1
  (try simp only [List.map_cons, List.map_nil, cv, List.cons_append, List.nil_append] at H)
  go_wp2
  refine bodyPost_ret (results_c rfl _ _ g6 25 _ (0, 0) _ rfl (H.of (by repeat (first | exact At.head | apply At.tail))) Tryz.underlying25 rfl (by kernel_rfl)) rfl ?_
  exact ⟨rfl, H.below⟩
end Go.Proofs.YtbmfgcekglgliaaGreat.G
