/- vote: what VoteHolds and VoteKeeps share: rows of tables of one's own; append from whatever source. -/
import Derived.Test.YtdabedknidkimaaDoorVn
import Derived.Maps.AppendAt
namespace Go.Proofs.YtdabedknidkimaaDoor.Vt
open Go.RowKit Go.Proofs.YtdabedknidkimaaDoorW.PrintWords Go.Proofs.YtdabedknidkimaaDoorW.PrintLast Go.Proofs.YtdabedknidkimaaDoorW.PrintMore Go.Proofs.YtdabedknidkimaaDoorEv Go.Proofs.YtdabedknidkimaaDoor.X
set_option linter.unusedVariables false
set_option linter.unusedSimpArgs false
section
variable {P : Program} {w : World}
/-- What lies where a slice tells: its cells. -/
def Src (w : World) (A : Option Addr) (news : List Value) : Prop := ∀ j u, news[j]? = some u → ∃ ad, A = some ad ∧ w.cell? (ad.add j) = some u
theorem Src.below {A : Option Addr} {news : List Value} {w1 : World} (h : Src w A news) (hb : Below w.heap.size w w1) : Src w1 A news := fun j u hu => by
  obtain ⟨ad, e, h1⟩ := h j u hu
  exact ⟨ad, e, pw_cell_below hb h1⟩
theorem run_ap (base : Nat) (t ty e : TypeId) (i : TypeInfo) (z : Value) (size bytes : Nat) (ht : P.underlying t = some (.slice e)) (hi : P.info? e = some i) (hz : i.zero = some z)
    (hsize : i.size = size) (hby : i.bytes = bytes) (hzs : z.cells.size = size) (hsz : 0 < size) (v : Value) (n : Nat) (xs : List Value) (hown : w.ownsRow base e size v n xs)
    (A : Option Addr) (m c : Nat) (news : List Value) (hl : news.length = m * size) (hr : Src w A news) (h1 : ∀ u ∈ news, u.oneCell' = true)
    (h63 : n + m ≤ maxLen) (hbytes : (n + m) * bytes ≤ 140737488355328) (hbase : base ≤ w.heap.size) :
    ∃ v' w', (Builtin.append_ #[t, t] ty #[v, .slice A m c]).run P w = .ok v' w' ∧ w'.ownsRow base e size v' (n + m) (xs ++ news) ∧ w.grownBy w' v.ownBlock := by
  cases A with
  | some ad =>
    obtain ⟨v', w', hrun, h2, h3, _, _⟩ := run_append_own_at (P := P) w base t ty e i z size bytes ht hi hz hsize hby hzs hsz v n xs hown ad m c news hl (fun j u hu => by
      obtain ⟨ad', e, h⟩ := hr j u hu
      cases e
      exact h) h1 h63 hbytes hbase
    exact ⟨v', w', hrun, h2, h3⟩
  | none =>
    have hn : news = [] := by
      cases news with
      | nil => rfl
      | cons x r =>
        obtain ⟨_, e, _⟩ := hr 0 x rfl
        cases e
    subst hn
    have hm : m = 0 := by
      have h0 : m * size = 0 := by simpa using hl.symm
      rcases Nat.mul_eq_zero.1 h0 with h | h
      · exact h
      · omega
    subst hm
    refine ⟨v, w, ?_, by simpa using hown, World.grownBy.refl w _⟩
    rcases hown.2 with ⟨rfl, rfl⟩ | ⟨g, cap, cur, rfl, _, _, hnc, _⟩
    · simp [Builtin.append_, run_underlying ht, sizeOf, typeInfo, hi, Builtin.lenOf, Builtin.firstCells]
    · simp [Builtin.append_, run_underlying ht, sizeOf, typeInfo, hi, Builtin.lenOf, Builtin.firstCells, hnc, storeCells]
theorem wl_ap {ops : Array Oper} {rest : List Oper} {o : Oper} {a : Act} {Q : Exit → Act → World → Prop} (hgd : o.guard = none) (s x : Operand) (t : TypeId)
    (ho : o.op = .call { callee := .builtin .append, args := #[s, x], argTypes := #[t, t] })
    (base : Nat) (e : TypeId) (i : TypeInfo) (z : Value) (size bytes : Nat) (ht : P.underlying t = some (.slice e)) (hi : P.info? e = some i) (hz : i.zero = some z)
    (hsize : i.size = size) (hby : i.bytes = bytes) (hzs : z.cells.size = size) (hsz : 0 < size) (v : Value) (n : Nat) (xs : List Value) (hs : a.eval s = v) (hown : w.ownsRow base e size v n xs)
    (A : Option Addr) (m c : Nat) (news : List Value) (hx : a.eval x = .slice A m c) (hl : news.length = m * size) (hr : Src w A news) (h1 : ∀ u ∈ news, u.oneCell' = true)
    (h63 : n + m ≤ maxLen) (hbytes : (n + m) * bytes ≤ 140737488355328) (hbase : base ≤ w.heap.size)
    (h : ∀ v' w', w'.ownsRow base e size v' (n + m) (xs ++ news) → Below base w w' → wpList P ops Q rest (a.put o.dst v') w') : wpList P ops Q (o :: rest) a w :=
  wpList_plain hgd fun K hK => by
    obtain ⟨v', w', hrun, h2, h3⟩ := run_ap (P := P) (w := w) base t o.type e i z size bytes ht hi hz hsize hby hzs hsz v n xs hown A m c news hl hr h1 h63 hbytes hbase
    unfold Oper.wp execOp
    simp only [ho, resolve, invoke, builtin, Sem.run_bind, Sem.run_pure, Result.andThen_ok, List.map_toArray, List.map_cons, List.map_nil, hs, hx, hrun]
    exact hK _ _ (h v' w' h2 ((Below.refl base w).grown h3 hbase (fun k hk => (hown.lt k hk).1)))
end
/-- Tables as slice values. -/
def TL (w : World) (hs : List Value) (ts : List (List S37)) : Prop := hs.length = ts.length ∧ ∀ (j : Nat) (hj : j < ts.length), ∃ A c, hs[j]? = some (.slice A ts[j].length c) ∧ ts[j].length ≤ c ∧ Kd.C k37 w A ts[j].length ts[j]
theorem TL.below {w w1 : World} {hs : List Value} {ts : List (List S37)} (h : TL w hs ts) (hb : Below w.heap.size w w1) : TL w1 hs ts :=
  ⟨h.1, fun j hj => by
    obtain ⟨A, c, h1, h2, h3⟩ := h.2 j hj
    exact ⟨A, c, h1, h2, Kd.C_below h3 hb⟩⟩
theorem TL.nil (w : World) : TL w [] [] := ⟨rfl, fun j hj => by simp at hj⟩
theorem TL.one {w : World} {A : Option Addr} {c : Nat} {t : List S37} (hc : t.length ≤ c) (h : Kd.C k37 w A t.length t) : TL w [.slice A t.length c] [t] := ⟨rfl, fun j hj => by
  have : j = 0 := by simpa using hj
  subst this
  exact ⟨A, c, rfl, hc, h⟩⟩
theorem TL.append {w : World} {hs hs' : List Value} {ts ts' : List (List S37)} (h : TL w hs ts) (h' : TL w hs' ts') : TL w (hs ++ hs') (ts ++ ts') := by
  refine ⟨by rw [List.length_append, List.length_append, h.1, h'.1], fun j hj => ?_⟩
  by_cases hl : j < ts.length
  · obtain ⟨A, c, h1, h2, h3⟩ := h.2 j hl
    refine ⟨A, c, ?_, ?_, ?_⟩
    · rw [List.getElem?_append_left (by rw [h.1]; exact hl), h1, List.getElem_append_left hl]
    · rw [List.getElem_append_left hl]; exact h2
    · rw [List.getElem_append_left hl]; exact h3
  · have hj' : j - ts.length < ts'.length := by rw [List.length_append] at hj; omega
    obtain ⟨A, c, h1, h2, h3⟩ := h'.2 _ hj'
    refine ⟨A, c, ?_, ?_, ?_⟩
    · rw [List.getElem?_append_right (by rw [h.1]; omega), h.1, h1, List.getElem_append_right (by omega)]
    · rw [List.getElem_append_right (by omega)]; exact h2
    · rw [List.getElem_append_right (by omega)]; exact h3
theorem TL.take {w : World} {hs : List Value} {ts : List (List S37)} (h : TL w hs ts) (k : Nat) : TL w (hs.take k) (ts.take k) := by
  refine ⟨by rw [List.length_take, List.length_take, h.1], fun j hj => ?_⟩
  have hj2 : j < k ∧ j < ts.length := by rw [List.length_take] at hj; omega
  obtain ⟨A, c, h1, h2, h3⟩ := h.2 j hj2.2
  refine ⟨A, c, ?_, ?_, ?_⟩
  · rw [List.getElem?_take, if_pos hj2.1, h1, List.getElem_take]
  · rw [List.getElem_take]; exact h2
  · rw [List.getElem_take]; exact h3
theorem TL.drop {w : World} {hs : List Value} {ts : List (List S37)} (h : TL w hs ts) (k : Nat) : TL w (hs.drop k) (ts.drop k) := by
  refine ⟨by rw [List.length_drop, List.length_drop, h.1], fun j hj => ?_⟩
  have hj2 : k + j < ts.length := by rw [List.length_drop] at hj; omega
  obtain ⟨A, c, h1, h2, h3⟩ := h.2 _ hj2
  refine ⟨A, c, ?_, ?_, ?_⟩
  · rw [List.getElem?_drop, h1, List.getElem_drop]
  · rw [List.getElem_drop]; exact h2
  · rw [List.getElem_drop]; exact h3
theorem TL.cells {w : World} {hs : List Value} {ts : List (List S37)} (h : TL w hs ts) : ∀ u ∈ hs, u.oneCell' = true := by
  intro u hu
  obtain ⟨j, hj, rfl⟩ := List.mem_iff_getElem.1 hu
  obtain ⟨A, c, h1, _⟩ := h.2 j (by rw [← h.1]; exact hj)
  rw [List.getElem?_eq_getElem hj] at h1
  rw [Option.some.inj h1]
  rfl
theorem TL.rep {w : World} {v : Value} {t : List S37} (h : TL w [v] [t]) : ∀ q, TL w (List.replicate q v) (List.replicate q t)
  | 0 => TL.nil w
  | q + 1 => TL.append h (TL.rep h q)
/-- The tables that came in, as slice values. -/
theorem tl_of {w : World} {A : Option Addr} {ts : List (List S37)} (h : Kd.C (Kd.slice 37 k37) w A ts.length ts) : ∃ hs, TL w hs ts ∧ Src w A hs := by
  have key : ∀ j (hj : j < ts.length), ∃ v, (∃ A0 c0, v = Value.slice A0 ts[j].length c0 ∧ ts[j].length ≤ c0 ∧ Kd.C k37 w A0 ts[j].length ts[j]) ∧ ∃ ad, A = some ad ∧ w.cell? (ad.add j) = some v := fun j hj => by
    obtain ⟨ad, A0, c0, e, hc, hl, hC⟩ := in_tab h (Below.refl _ _) j hj
    exact ⟨_, ⟨A0, c0, rfl, hl, hC⟩, ad, e, hc⟩
  have mk : ∀ n, n ≤ ts.length → ∃ hs : List Value, hs.length = n ∧ ∀ j (hj : j < ts.length), j < n → ∃ v, hs[j]? = some v ∧ (∃ A0 c0, v = Value.slice A0 ts[j].length c0 ∧ ts[j].length ≤ c0 ∧ Kd.C k37 w A0 ts[j].length ts[j]) ∧ ∃ ad, A = some ad ∧ w.cell? (ad.add j) = some v := fun n => by
    induction n with
    | zero => exact fun _ => ⟨[], rfl, fun j _ h => absurd h (Nat.not_lt_zero _)⟩
    | succ n ih =>
      intro hn
      obtain ⟨hs, hl, hp⟩ := ih (by omega)
      obtain ⟨v, h1, h2⟩ := key n (by omega)
      refine ⟨hs ++ [v], by rw [List.length_append, hl]; rfl, fun j hj hjn => ?_⟩
      by_cases hlt : j < n
      · obtain ⟨u, g1, g2⟩ := hp j hj hlt
        exact ⟨u, by rw [List.getElem?_append_left (by omega)]; exact g1, g2⟩
      · obtain rfl : j = n := by omega
        exact ⟨v, by rw [List.getElem?_append_right (by omega), hl, Nat.sub_self]; rfl, h1, h2⟩
  obtain ⟨hs, hl, hp⟩ := mk ts.length (Nat.le_refl _)
  refine ⟨hs, ⟨hl, fun j hj => ?_⟩, fun j u hu => ?_⟩
  · obtain ⟨v, g1, ⟨A0, c0, rfl, g2, g3⟩, _⟩ := hp j hj hj
    exact ⟨A0, c0, g1, g2, g3⟩
  · have hj : j < ts.length := by rw [← hl]; exact (List.getElem?_eq_some_iff.1 hu).1
    obtain ⟨v, g1, _, ad, e, g2⟩ := hp j hj hj
    rw [g1] at hu
    cases hu
    exact ⟨ad, e, g2⟩
/-- A row of tables of one's own. -/
theorem tl_own {w : World} {base : Nat} {u : Value} {hs : List Value} {ts : List (List S37)} (h : w.ownsRow base 22 1 u ts.length hs) (ht : TL w hs ts) : ∃ A c, u = .slice A ts.length c ∧ ts.length ≤ c ∧ Kd.C (Kd.slice 37 k37) w A ts.length ts := by
  rcases h.2 with ⟨rfl, h0⟩ | ⟨g, cap, cur, rfl, _, hg, h1, h2, h3, h4⟩
  · have : ts = [] := List.eq_nil_of_length_eq_zero h0
    subst this
    exact ⟨none, 0, rfl, Nat.le_refl _, rfl, by decide, fun h => by simp at h⟩
  · refine ⟨_, cap, rfl, h1, T_of_cells (Nat.le_trans h1 (Nat.le_trans h2 (by unfold maxLen; omega))) (fun j hj => ?_)⟩
    obtain ⟨A, c, g1, g2, g3⟩ := ht.2 j hj
    refine ⟨A, c, ?_, g2, g3⟩
    rw [add_plain, blk_cell hg]
    rw [← h4, List.getElem?_take] at g1
    split at g1
    · simpa using g1
    · cases g1
/-- What more than F tell is adopted, if at most F tell something else. -/
theorem holds_plain {F : Int} (hF : 0 ≤ F) (own : List S37) (ls : List (List S37)) (r : List S37) (j q : Nat) (hg : gd r = true) (hq : F < (q : Int)) (hl : (ls.length : Int) ≤ F) :
    adoptP F own (ls.take j ++ List.replicate q r ++ ls.drop j) = (r, true) := by
  have hc : ∀ l, cntT (ls.take j ++ List.replicate q r ++ ls.drop j) l = cntT ls l + if eqT l r = true then q else 0 := fun l => by
    unfold cntT
    rw [List.filter_append, List.filter_append, List.length_append, List.length_append]
    have h1 : ((ls.take j).filter (fun u => eqT l u)).length + ((ls.drop j).filter (fun u => eqT l u)).length = (ls.filter (fun u => eqT l u)).length := by
      rw [← List.length_append, ← List.filter_append, List.take_append_drop]
    have h2 : ((List.replicate q r).filter (fun u => eqT l u)).length = if eqT l r = true then q else 0 := by
      by_cases h : eqT l r = true
      · rw [if_pos h, List.filter_replicate, if_pos h, List.length_replicate]
      · rw [if_neg h, List.filter_replicate, if_neg h]
        rfl
    omega
  have h2 : (adoptP F own (ls.take j ++ List.replicate q r ++ ls.drop j)).2 = true := adopt_some hF hg (by
    rw [hc, if_pos (eqT_refl r)]
    omega)
  obtain ⟨l, hl'⟩ : ∃ l, adoptP F own (ls.take j ++ List.replicate q r ++ ls.drop j) = (l, true) := ⟨_, Prod.ext rfl h2⟩
  obtain ⟨_, hlt⟩ := adopt_good hl'
  rw [hc] at hlt
  have hle := cntT_le ls l
  by_cases h : eqT l r = true
  · rw [hl', (eqT_iff _ _).1 h]
  · rw [if_neg h] at hlt
    omega
theorem info22 : (Tryd.prog.info? 22).map (fun i => (i.zero, i.size, i.bytes)) = some (some (.slice none 0 0), 1, 24) := by kernel_rfl
end Go.Proofs.YtdabedknidkimaaDoor.Vt
