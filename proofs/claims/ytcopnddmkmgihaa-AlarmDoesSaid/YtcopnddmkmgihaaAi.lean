/- alarm: slices.Insert of one timer. -/
import Derived.Test.YtcopnddmkmgihaaAb
namespace Go.Proofs.Ytcopnddmkmgihaa.Ak
open Go.RowKit Go.Proofs.YtcopnddmkmgihaaW.PrintWords Go.Proofs.YtcopnddmkmgihaaW.PrintLast Go.Proofs.YtcopnddmkmgihaaW.PrintMore Go.Proofs.YtcopnddmkmgihaaEv
set_option linter.unusedVariables false
set_option linter.unusedSimpArgs false
/-- One timer more, at a place. -/
def ins (l : List (Int × Int)) (k : Nat) (x : Int × Int) : List (Int × Int) := l.take k ++ x :: l.drop k
theorem ins_length (l : List (Int × Int)) (k : Nat) (x : Int × Int) (hk : k ≤ l.length) : (ins l k x).length = l.length + 1 := by
  unfold ins
  rw [List.length_append, List.length_take, List.length_cons, List.length_drop]
  omega
theorem copy_event (w : World) {ops : Array Oper} {rest : List Oper} {o : Oper} {a : Act} {Q : Exit → Act → World → Prop} (hgd : o.guard = none) (d s : Operand) (t t' : TypeId)
    (ho : o.op = .call { callee := .builtin .copy, args := #[d, s], argTypes := #[t, t'] }) (v u : Value) (hd : a.eval d = v) (hs : a.eval s = u) {v' : Value} {w' : World}
    (hr : (Builtin.copy_ #[t, t'] o.type #[v, u]).run Try.prog w = .ok v' w') (h : wpList Try.prog ops Q rest (a.put o.dst v') w') : wpList Try.prog ops Q (o :: rest) a w := by
  refine wpList_plain hgd fun K hK => ?_
  unfold Oper.wp execOp
  simp only [ho, resolve, invoke, builtin, Sem.run_bind, Sem.run_pure, Result.andThen_ok, List.map_toArray, List.map_cons, List.map_nil, hd, hs, hr]
  exact hK _ _ h
theorem append_event (w : World) {ops : Array Oper} {rest : List Oper} {o : Oper} {a : Act} {Q : Exit → Act → World → Prop} (hgd : o.guard = none) (d s : Operand) (t t' : TypeId)
    (ho : o.op = .call { callee := .builtin .append, args := #[d, s], argTypes := #[t, t'] }) (v u : Value) (hd : a.eval d = v) (hs : a.eval s = u) {v' : Value} {w' : World}
    (hr : (Builtin.append_ #[t, t'] o.type #[v, u]).run Try.prog w = .ok v' w') (h : wpList Try.prog ops Q rest (a.put o.dst v') w') : wpList Try.prog ops Q (o :: rest) a w := by
  refine wpList_plain hgd fun K hK => ?_
  unfold Oper.wp execOp
  simp only [ho, resolve, invoke, builtin, Sem.run_bind, Sem.run_pure, Result.andThen_ok, List.map_toArray, List.map_cons, List.map_nil, hd, hs, hr]
  exact hK _ _ h
theorem step_copy {ops : Array Oper} {o : Oper} {a : Act} {w : World} {K : Act → World → Prop} {Q : Exit → Act → World → Prop} {E : Prop}
    (hg : o.guard = none) (d x : Operand) (dT sT : TypeId) (hop : o.op = Op.call { callee := Callee.builtin Builtin.copy, args := #[d, x], argTypes := #[dT, sT] })
    (v u : Value) (hd : a.eval d = v) (hx : a.eval x = u) {v' : Value} {w' : World} (hr : (Builtin.copy_ #[dT, sT] o.type #[v, u]).run Try.prog w = .ok v' w') (hK : K (a.put o.dst v') w') :
    if Region.wanted o (yielded ops a.tmps) = true then Oper.wp Try.prog o a w K Q else E := by
  have hw : Region.wanted o (yielded ops a.tmps) = true := by simp [Region.wanted, hg]
  rw [if_pos hw]
  unfold Oper.wp
  simp [execOp, hop, resolve, invoke, builtin, hd, hx, hr, Result.andThen]
  exact hK
set_option maxRecDepth 100000 in
set_option maxHeartbeats 4000000 in
/-- .. at the end. -/
theorem Insert_end (w : World) (v : Value) (l : List (Int × Int)) (x : Int × Int) (hl : l.length ≤ 4096) (h : Rw 68 w v l) (vb : Nat) (hvb : w.heap[vb]? = some (.cells #[.int .i64 x.1, .int .i64 x.2] 68 (0, 0))) :
    Calls Try.prog 39 #[v, .int .i64 l.length, .slice (some ⟨vb, 0, none⟩) 1 1] w fun e w' => ∃ v', e = .returned v' ∧ Rw 68 w' v' (l ++ [x]) ∧ Chg (fun j => v.ownBlock = some j) w w' ∧ (v'.ownBlock = v.ownBlock ∨ ∃ b, v'.ownBlock = some b ∧ w.heap.size ≤ b) := by
  obtain ⟨i0, hi0, hz0, hz1, hz2⟩ := info_parts info68
  obtain ⟨A, c, rfl, hrow⟩ := h.slice
  have hnews : ∀ j u, [Value.int .i64 x.1, Value.int .i64 x.2][j]? = some u → w.cell? ((⟨vb, 0, none⟩ : Addr).add j) = some u := by
    intro j u hu
    rw [add_off, blk_cell hvb]
    match j, hu with
    | 0, hu => exact hu
    | 1, hu => exact hu
  have HH := Lib.hid h
  have HN := Lib.hid hnews
  clear h hrow hnews hvb
  obtain ⟨n, hn⟩ : ∃ n, l.length = n := ⟨_, rfl⟩
  have HL := Lib.hid hn
  rw [hn] at HH hl ⊢
  clear hn
  by_cases hcn : c = n
  · subst hcn
    go_enter Try.func39, Try.ntmps39
    go_wp2_with (at_builtin; refine wpList_append_own_at _ rfl _ _ 62 rfl 0 68 i0 (.agg #[.int .i64 0, .int .i64 0]) 2 16 Try.underlying62 hi0 hz0 hz1 hz2 rfl (by decide) (.slice A c c) c (fl l) rfl (by have := HH.out; unfold Rw at this; rw [HL.out] at this; exact this) ⟨vb, 0, none⟩ 1 1 [.int .i64 x.1, .int .i64 x.2] rfl rfl HN.out (by simp [Value.oneCell']) (by unfold maxLen; omega) (by omega) (Nat.zero_le _) ?_; intro v' w1 hown' hgrow hnil hat)
    go_ret
    refine ⟨v', rfl, ?_, Chg.of_grown hgrow (fun k e => e), hat.imp id (fun e => ⟨_, e, Nat.le_refl _⟩)⟩
    unfold Rw
    rw [List.length_append, fl_append, HL.out]
    exact hown'
  · go_enter Try.func39, Try.ntmps39
    go_wp2_with (at_builtin; refine wpList_append_own_at _ rfl _ _ 62 rfl 0 68 i0 (.agg #[.int .i64 0, .int .i64 0]) 2 16 Try.underlying62 hi0 hz0 hz1 hz2 rfl (by decide) (.slice A n c) n (fl l) rfl (by have := HH.out; unfold Rw at this; rw [HL.out] at this; exact this) ⟨vb, 0, none⟩ 1 1 [.int .i64 x.1, .int .i64 x.2] rfl rfl HN.out (by simp [Value.oneCell']) (by unfold maxLen; omega) (by omega) (Nat.zero_le _) ?_; intro v' w1 hown' hgrow hnil hat)
    go_ret
    refine ⟨v', rfl, ?_, Chg.of_grown hgrow (fun k e => e), hat.imp id (fun e => ⟨_, e, Nat.le_refl _⟩)⟩
    unfold Rw
    rw [List.length_append, fl_append, HL.out]
    exact hown'
end Go.Proofs.Ytcopnddmkmgihaa.Ak
