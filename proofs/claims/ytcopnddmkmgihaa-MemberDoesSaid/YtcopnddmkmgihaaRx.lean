/- Laws for a region that draws its order, walked in the order of its text (over the print's own laws on such regions): short to write, with calls and new memory inside. -/
import Derived.Test.YtcopnddmkmgihaaWLast
import Derived.Test.YtcopnddmkmgihaaEv
namespace Go.Proofs.YtcopnddmkmgihaaRx
open Go.RowKit Go.Proofs.YtcopnddmkmgihaaW.PrintWords Go.Proofs.YtcopnddmkmgihaaW.PrintLast Go.Proofs.YtcopnddmkmgihaaW.PrintMore Go.Proofs.YtcopnddmkmgihaaEv
/-- The first k of n have come up. -/
def pre (n k : Nat) : Array Bool := (List.replicate k true ++ List.replicate (n - k) false).toArray
theorem pre_zero (n : Nat) : Array.replicate n false = pre n 0 := by
  simp [pre, ← List.toArray_replicate]
/-- The region's rest, from its k-th operation on. -/
def Rg (P : Program) (ops : Array Oper) (Q : Exit → Act → World → Prop) (S : World → Prop) (n k : Nat) (a : Act) (w : World) : Prop := wpAnyLast P .any ops Q S [] (n - k) (pre n k) a w
section
variable {P : Program} {ops : Array Oper} {Q : Exit → Act → World → Prop} {S : World → Prop} {n k : Nat} {a : Act} {w : World} {oi : Oper} {v : Value}
theorem rg_start (S : World → Prop) (n : Nat) {id : Nat} (hm : P.follows .mixedOrders = true) (hn : ops.size = n) (hS : S w.drew) (h : S w.drew → Rg P ops Q S n 0 a w.drew) : (Code.region id ops true).wp P Q a w :=
  start_ (ds := []) (pre n 0) hm hn (pre_zero n) hS h
theorem fuel_ (hk : k < n) : n - k = (n - (k + 1)) + 1 := by omega
/-- It yields in every world. -/
theorem rg_pure (hi : ops[k]? = some oi) (hc : (decide (k < n) && anyB .any ops (pre n k) (pre n (k + 1)) k) = true) (hQ : ∀ c a w, Q (.panic c) (a.put oi.dst v) w → Q (.panic c) a w)
    (hw : Region.wanted oi (yielded ops a.tmps) = true) (hy : ∀ w, (execOp a.eval oi).run P w = .ok (.value v) w) (h : Rg P ops Q S n (k + 1) (a.put oi.dst v) w) : Rg P ops Q S n k a w := by
  simp only [Bool.and_eq_true, decide_eq_true_eq] at hc
  unfold Rg at h ⊢
  rw [fuel_ hc.1]
  exact pure_ (pre n (k + 1)) hi rfl hc.2 hQ (.inl ⟨hw, hy⟩) rfl h
/-- Its guard is off. -/
theorem rg_off (hi : ops[k]? = some oi) (hc : (decide (k < n) && anyB .any ops (pre n k) (pre n (k + 1)) k) = true) (hQ : ∀ c a w, Q (.panic c) (a.put oi.dst undef) w → Q (.panic c) a w)
    (hw : Region.wanted oi (yielded ops a.tmps) = false) (h : Rg P ops Q S n (k + 1) (a.put oi.dst undef) w) : Rg P ops Q S n k a w := by
  simp only [Bool.and_eq_true, decide_eq_true_eq] at hc
  unfold Rg at h ⊢
  rw [fuel_ hc.1]
  exact pure_ (pre n (k + 1)) hi rfl hc.2 hQ (.inr ⟨hw, rfl⟩) rfl h
/-- It reads what S tells. -/
theorem rg_take (hi : ops[k]? = some oi) (hc : (decide (k < n) && takeB .any ops [] (pre n k) (pre n (k + 1)) k) = true) (hQ : ∀ c a w, Q (.panic c) (a.put oi.dst v) w → Q (.panic c) a w)
    (hw : Region.wanted oi (yielded ops a.tmps) = true) (hS : S w) (hy : ∀ w, S w → (execOp a.eval oi).run P w = .ok (.value v) w) (h : Rg P ops Q S n (k + 1) (a.put oi.dst v) w) : Rg P ops Q S n k a w := by
  simp only [Bool.and_eq_true, decide_eq_true_eq] at hc
  unfold Rg at h ⊢
  rw [fuel_ hc.1]
  exact take_ (pre n (k + 1)) hi rfl hc.2 hQ (.inl ⟨hw, hy⟩) hS rfl h
/-- It alone may come up: it is run here, and S is shown behind it. -/
theorem rg_one (hi : ops[k]? = some oi) (hc : (decide (k < n) && readyB .any ops (pre n k) (pre n (k + 1)) k) = true)
    (hw : Region.wanted oi (yielded ops a.tmps) = true) (h : ∀ K : Act → World → Prop, (∀ a' w', S w' → (S w' → Rg P ops Q S n (k + 1) a' w') → K a' w') → Oper.wp P oi a w K Q) : Rg P ops Q S n k a w := by
  simp only [Bool.and_eq_true, decide_eq_true_eq] at hc
  unfold Rg at h ⊢
  rw [fuel_ hc.1]
  refine one_ (pre n (k + 1)) hi rfl hc.2 (by simp) (fun K hK => ?_)
  rw [if_pos hw]
  exact h K hK
/-- .. and makes memory. -/
theorem rg_new (hi : ops[k]? = some oi) (hc : (decide (k < n) && readyB .any ops (pre n k) (pre n (k + 1)) k) = true)
    (hw : Region.wanted oi (yielded ops a.tmps) = true) {w1 : World} (hrun : (execOp a.eval oi).run P w = .ok (.value v) w1) (hS : S w1) (h : S w1 → Rg P ops Q S n (k + 1) (a.put oi.dst v) w1) : Rg P ops Q S n k a w :=
  rg_one hi hc hw fun K hK => by
    unfold Oper.wp
    rw [hrun]
    exact hK _ _ hS h
/-- .. and calls a function. -/
theorem rg_call (f : FuncId) (args : Array Value) {fn : Func} {as : Array Operand} {ts : Array TypeId} (hi : ops[k]? = some oi) (hop : oi.op = .call { callee := .value (.func f), args := as, argTypes := ts }) (hc : (decide (k < n) && readyB .any ops (pre n k) (pre n (k + 1)) k) = true)
    (hw : Region.wanted oi (yielded ops a.tmps) = true) (hf : P.funcs[f]? = some fn) (hname : (fn.name == "runtime.NumGoroutine") = false) (hb : fn.body.isSome = true) (hargs : as.map a.eval = args)
    (h : Calls P f args w fun e w' => ∃ v, e = .returned v ∧ S w' ∧ (S w' → Rg P ops Q S n (k + 1) (a.put oi.dst v) w')) : Rg P ops Q S n k a w :=
  rg_one hi hc hw fun K hK => by
    have he := enters_ hf hname hb args w
    have hrun : (execOp a.eval oi).run P w = .ok (.enter f args) w := by
      unfold execOp
      simp [hop, resolve, Deferred.ofValue, invoke, Act.eval, hargs, he]
    unfold Oper.wp
    rw [hrun, Oper.upon_enter]
    refine h.mono fun e w'' hh => ?_
    obtain ⟨v, rfl, h1, h2⟩ := hh
    exact hK _ _ h1 h2
theorem rg_done (hr : (Region.ready .any ops (pre n k) == []) = true) (h : Q .normal a w) : Rg P ops Q S n k a w := done_ hr h
theorem rg_norm {a' : Act} (ha : a = a') (h : Rg P ops Q S n k a' w) : Rg P ops Q S n k a w := by
  subst ha
  exact h
end
/-! the same with the operations still to come written as a list -/
section
variable {P : Program} {ops : Array Oper} {Q : Exit → Act → World → Prop} {S : World → Prop} {n k : Nat} {a : Act} {w : World} {oi : Oper} {rest : List Oper} {v : Value}
def RL (P : Program) (ops : Array Oper) (Q : Exit → Act → World → Prop) (S : World → Prop) (n k : Nat) (rest : List Oper) (a : Act) (w : World) : Prop := ops.toList.drop k = rest → Rg P ops Q S n k a w
theorem rl_hd (e : ops.toList.drop k = oi :: rest) : ops[k]? = some oi := by
  rw [← Array.getElem?_toList, show k = k + 0 from rfl, ← List.getElem?_drop, e]
  rfl
theorem rl_tl (e : ops.toList.drop k = oi :: rest) : ops.toList.drop (k + 1) = rest := by
  rw [← List.drop_drop, e]
  rfl
theorem rl_start (S : World → Prop) (n : Nat) {id : Nat} {l : List Oper} (hm : P.follows .mixedOrders = true) (hn : l.length = n) (hS : S w.drew) (h : S w.drew → RL P l.toArray Q S n 0 l a w.drew) : (Code.region id l.toArray true).wp P Q a w :=
  rg_start S n hm (by simpa using hn) hS (fun h1 => h h1 rfl)
theorem rl_pure (hc : (decide (k < n) && anyB .any ops (pre n k) (pre n (k + 1)) k) = true) (hQ : ∀ c a w, Q (.panic c) (a.put oi.dst v) w → Q (.panic c) a w)
    (hw : Region.wanted oi (yielded ops a.tmps) = true) (hy : ∀ w, (execOp a.eval oi).run P w = .ok (.value v) w) (h : RL P ops Q S n (k + 1) rest (a.put oi.dst v) w) : RL P ops Q S n k (oi :: rest) a w :=
  fun e => rg_pure (rl_hd e) hc hQ hw hy (h (rl_tl e))
theorem rl_off (hc : (decide (k < n) && anyB .any ops (pre n k) (pre n (k + 1)) k) = true) (hQ : ∀ c a w, Q (.panic c) (a.put oi.dst undef) w → Q (.panic c) a w)
    (hw : Region.wanted oi (yielded ops a.tmps) = false) (h : RL P ops Q S n (k + 1) rest (a.put oi.dst undef) w) : RL P ops Q S n k (oi :: rest) a w :=
  fun e => rg_off (rl_hd e) hc hQ hw (h (rl_tl e))
theorem rl_take (hc : (decide (k < n) && takeB .any ops [] (pre n k) (pre n (k + 1)) k) = true) (hQ : ∀ c a w, Q (.panic c) (a.put oi.dst v) w → Q (.panic c) a w)
    (hw : Region.wanted oi (yielded ops a.tmps) = true) (hS : S w) (hy : ∀ w, S w → (execOp a.eval oi).run P w = .ok (.value v) w) (h : RL P ops Q S n (k + 1) rest (a.put oi.dst v) w) : RL P ops Q S n k (oi :: rest) a w :=
  fun e => rg_take (rl_hd e) hc hQ hw hS hy (h (rl_tl e))
theorem rl_new (hc : (decide (k < n) && readyB .any ops (pre n k) (pre n (k + 1)) k) = true)
    (hw : Region.wanted oi (yielded ops a.tmps) = true) {w1 : World} (hrun : (execOp a.eval oi).run P w = .ok (.value v) w1) (hS : S w1) (h : S w1 → RL P ops Q S n (k + 1) rest (a.put oi.dst v) w1) : RL P ops Q S n k (oi :: rest) a w :=
  fun e => rg_new (rl_hd e) hc hw hrun hS (fun h1 => h h1 (rl_tl e))
theorem rl_call (f : FuncId) (args : Array Value) {fn : Func} {as : Array Operand} {ts : Array TypeId} (hop : oi.op = .call { callee := .value (.func f), args := as, argTypes := ts }) (hc : (decide (k < n) && readyB .any ops (pre n k) (pre n (k + 1)) k) = true)
    (hw : Region.wanted oi (yielded ops a.tmps) = true) (hf : P.funcs[f]? = some fn) (hname : (fn.name == "runtime.NumGoroutine") = false) (hb : fn.body.isSome = true) (hargs : as.map a.eval = args)
    (h : Calls P f args w fun e w' => ∃ v, e = .returned v ∧ S w' ∧ (S w' → RL P ops Q S n (k + 1) rest (a.put oi.dst v) w')) : RL P ops Q S n k (oi :: rest) a w :=
  fun e => rg_call f args (rl_hd e) hop hc hw hf hname hb hargs (h.mono fun _ _ ⟨v, h1, h2, h3⟩ => ⟨v, h1, h2, fun h4 => h3 h4 (rl_tl e)⟩)
theorem rl_pureK (hc : (decide (k < n) && anyB .any ops (pre n k) (pre n (k + 1)) k) = true) (hQ : ∀ c a w, Q (.panic c) (a.put oi.dst v) w → Q (.panic c) a w)
    (hw : Region.wanted oi (yielded ops a.tmps) = true) (hy : ∀ w (K : Result Next → Prop), Hid (K (.ok (.value v) w)) → K ((execOp a.eval oi).run P w)) (h : RL P ops Q S n (k + 1) rest (a.put oi.dst v) w) : RL P ops Q S n k (oi :: rest) a w :=
  rl_pure hc hQ hw (fun w => hy w (fun r => r = .ok (.value v) w) (Lib.hid rfl)) h
theorem rl_takeK (hc : (decide (k < n) && takeB .any ops [] (pre n k) (pre n (k + 1)) k) = true) (hQ : ∀ c a w, Q (.panic c) (a.put oi.dst v) w → Q (.panic c) a w)
    (hw : Region.wanted oi (yielded ops a.tmps) = true) (hS : S w) (hy : ∀ w, S w → ∀ (K : Result Next → Prop), Hid (K (.ok (.value v) w)) → K ((execOp a.eval oi).run P w)) (h : RL P ops Q S n (k + 1) rest (a.put oi.dst v) w) : RL P ops Q S n k (oi :: rest) a w :=
  rl_take hc hQ hw hS (fun w hS => hy w hS (fun r => r = .ok (.value v) w) (Lib.hid rfl)) h
theorem rl_newK (hc : (decide (k < n) && readyB .any ops (pre n k) (pre n (k + 1)) k) = true)
    (hw : Region.wanted oi (yielded ops a.tmps) = true) {w1 : World} (hrun : ∀ (K : Result Next → Prop), Hid (K (.ok (.value v) w1)) → K ((execOp a.eval oi).run P w)) (hS : S w1) (h : S w1 → RL P ops Q S n (k + 1) rest (a.put oi.dst v) w1) : RL P ops Q S n k (oi :: rest) a w :=
  rl_new hc hw (hrun (fun r => r = .ok (.value v) w1) (Lib.hid rfl)) hS h
theorem rlg_load {ty : TypeId} {x : Operand} (_ho : oi.op = .load ty x) (h : RL P ops Q S n k (oi :: rest) a w) : RL P ops Q S n k (oi :: rest) a w := h
theorem rlg_new {ty : TypeId} {m : Nat} {l : Array (Nat × Operand)} (_ho : oi.op = .buildSlice ty m l) (h : RL P ops Q S n k (oi :: rest) a w) : RL P ops Q S n k (oi :: rest) a w := h
theorem rlg_call {f : FuncId} {as : Array Operand} {ts : Array TypeId} (_ho : oi.op = .call { callee := .value (.func f), args := as, argTypes := ts }) (h : RL P ops Q S n k (oi :: rest) a w) : RL P ops Q S n k (oi :: rest) a w := h
/-- A row of cells is loaded. -/
theorem rl_cells {ty : TypeId} {x : Operand} {ad : Addr} {d : TypeDesc} {cs : List Value} (ho : oi.op = .load ty x) (hc : (decide (k < n) && takeB .any ops [] (pre n k) (pre n (k + 1)) k) = true) (hQ : ∀ c a w, Q (.panic c) (a.put oi.dst (.agg cs.toArray)) w → Q (.panic c) a w)
    (hw : Region.wanted oi (yielded ops a.tmps) = true) (hS : S w) (hx : a.eval x = .pointer (some ad)) (hu : P.underlying ty = some d) (hd : (match d with | .struct _ | .array _ _ => true | _ => false) = true) (hi : (P.info? ty).map (·.size) = some cs.length) (hcc : ∀ W, S W → ∀ j u, cs[j]? = some u → W.cell? (ad.add j) = some u)
    (h : RL P ops Q S n (k + 1) rest (a.put oi.dst (.agg cs.toArray)) w) : RL P ops Q S n k (oi :: rest) a w := by
  refine rl_take hc hQ hw hS (fun W hW => ?_) h
  have hl := run_loadCells_list (P := P) W ad cs (hcc W hW)
  have hagg : (isAgg ty).run P W = .ok true W := by
    unfold isAgg
    rw [Sem.run_bind, run_underlying hu W]
    cases d <;> simp_all
  obtain ⟨i, hq, hs⟩ := Option.map_eq_some_iff.1 hi
  have hlv : (loadVar ty ad).run P W = .ok (.agg cs.toArray) W := by simp [loadVar, Sem.run_bind, hagg, sizeOf, typeInfo, hq, hs, hl]
  unfold execOp
  simp only [ho, hx, Instr.loadAt, Instr.sureAddr, Sem.run_bind, Sem.run_pure, Result.andThen_ok, hlv]
/-- A cell is loaded. -/
theorem rl_cell {ty : TypeId} {x : Operand} {ad : Addr} {d : TypeDesc} {v : Value} (ho : oi.op = .load ty x) (hc : (decide (k < n) && takeB .any ops [] (pre n k) (pre n (k + 1)) k) = true) (hQ : ∀ c a w, Q (.panic c) (a.put oi.dst v) w → Q (.panic c) a w)
    (hw : Region.wanted oi (yielded ops a.tmps) = true) (hS : S w) (hx : a.eval x = .pointer (some ad)) (hu : P.underlying ty = some d) (hd : (match d with | .struct _ | .array _ _ => true | _ => false) = false) (hcc : ∀ W, S W → W.cell? ad = some v)
    (h : RL P ops Q S n (k + 1) rest (a.put oi.dst v) w) : RL P ops Q S n k (oi :: rest) a w := by
  refine rl_take hc hQ hw hS (fun W hW => ?_) h
  have hagg : (isAgg ty).run P W = .ok false W := by
    unfold isAgg
    rw [Sem.run_bind, run_underlying hu W]
    cases d <;> simp_all
  have hlv : (loadVar ty ad).run P W = .ok v W := by simp [loadVar, Sem.run_bind, hagg, hcc W hW]
  unfold execOp
  simp only [ho, hx, Instr.loadAt, Instr.sureAddr, Sem.run_bind, Sem.run_pure, Result.andThen_ok, hlv]
/-- A store into a map. -/
theorem rl_map {ty : TypeId} {m x u : Operand} {b : Nat} {key val : Value} {w1 : World} (hop : oi.op = .mapUpdate ty m x u) (hc : (decide (k < n) && readyB .any ops (pre n k) (pre n (k + 1)) k) = true)
    (hw : Region.wanted oi (yielded ops a.tmps) = true) (hm : a.eval m = .map (some b)) (hx : a.eval x = key) (hv : a.eval u = val) (hrun : (Instr.mapUpdate ty (.map (some b)) key val).run P w = .ok () w1) (hS : S w1)
    (h : S w1 → RL P ops Q S n (k + 1) rest (a.put oi.dst undef) w1) : RL P ops Q S n k (oi :: rest) a w := fun e =>
  rg_one (rl_hd e) hc hw fun K hK => by
    unfold Oper.wp
    simp [execOp, hop, hm, hx, hv, hrun, Result.andThen]
    exact hK _ _ hS (fun h1 => h h1 (rl_tl e))
theorem rl_done (hr : (Region.ready .any ops (pre n k) == []) = true) (h : Q .normal a w) : RL P ops Q S n k [] a w := fun _ => rg_done hr h
theorem rl_norm {a' : Act} (ha : a = a') (h : RL P ops Q S n k rest a' w) : RL P ops Q S n k rest a w := by
  subst ha
  exact h
end
end Go.Proofs.YtcopnddmkmgihaaRx
