/- member: Tick: the walk. -/
import Derived.Test.YtcopnddmkmgihaaMn
namespace Go.Proofs.Ytcopnddmkmgihaa.Mb
open Go.RowKit Go.Maps Go.Sort Go.Shelf Go.ChangeMaps Go.MapKept Go.Proofs.YtcopnddmkmgihaaW.PrintWords Go.Proofs.YtcopnddmkmgihaaW.PrintLast Go.Proofs.YtcopnddmkmgihaaW.PrintMore Go.Proofs.YtcopnddmkmgihaaEv Go.Proofs.YtcopnddmkmgihaaRx
set_option linter.unusedVariables false
set_option linter.unusedSimpArgs false
/-- Who goes; what becomes of who stays, and of who goes until it is dropped. -/
def goneP (p : Int) (v : Int × Int) : Bool := decide (0 < v.2) && decide (p < v.2)
def stepV (p : Int) (v : Int × Int) : Int × Int := (if goneP p v = true then v.1 else if v.2 = 0 then min (v.1 + 1) 1073741824 else 0, min (v.2 + 1) 1073741824)
def stepF (p : Int) (f : FT) : FT := fun k => (f k).map (stepV p)
def tickF (p : Int) (f : FT) : FT := fun k => match f k with | none => none | some v => if goneP p v = true then none else some (stepV p v)
def goneF (p : Int) (f : FT) : List Int := nums (fun k => match f k with | none => none | some v => if goneP p v = true then some v else none)
/-- Numbers that may be. -/
def GoodF (f : FT) : Prop := ∀ k v, f k = some v → (0 ≤ v.1 ∧ v.1 ≤ 1073741824) ∧ 0 ≤ v.2 ∧ v.2 ≤ 1073741824
theorem Ab.congr {D : DataW Unit} {f g : FT} (h : Ab D f) (e : ∀ k, k < 48 → f k = g k) : Ab D g :=
  ⟨fun k hk => by rw [← e k hk]; exact h.has k hk, h.only, fun k v hk hv => h.at_ k v hk (by rw [e k hk]; exact hv)⟩
/-- What the map holds on the way. -/
structure Ph (p : Int) (f : FT) (D : DataW Unit) (left : Lit → Bool) (gl : List Int) : Prop where
  has : ∀ k : Nat, k < 48 → Maps.has D (ky k) = (f k).isSome
  only : ∀ kl, Maps.has D kl = true → ∃ k : Nat, k < 48 ∧ kl = ky k
  lh : ∀ kl, left kl = true → Maps.has D kl = true
  at0 : ∀ (k : Nat) v, k < 48 → f k = some v → left (ky k) = true → ∀ zd, D.atKey (ky k) zd = pr v
  at1 : ∀ (k : Nat) v, k < 48 → f k = some v → left (ky k) = false → ∀ zd, D.atKey (ky k) zd = pr (stepV p v)
  nd : gl.Nodup
  mem : ∀ x, x ∈ gl ↔ ∃ k : Nat, k < 48 ∧ x = k ∧ left (ky k) = false ∧ ∃ v, f k = some v ∧ goneP p v = true
theorem Ph.start {p : Int} {f : FT} {D : DataW Unit} (h : Ab D f) : Ph p f D (Maps.has D) [] := by
  refine ⟨h.has, h.only, fun _ h => h, fun k v hk hv _ => h.at_ k v hk hv, fun k v hk hv hl => ?_, List.nodup_nil, fun x => ?_⟩
  · rw [h.has k hk, hv] at hl; cases hl
  · constructor
    · intro hx; cases hx
    · rintro ⟨k, hk, _, hl, v, hv, _⟩
      rw [h.has k hk, hv] at hl; cases hl
theorem same_ky {a b : Int} : (ky a).sameKey (ky b) = decide (a = b) := by
  by_cases h : a = b
  · subst h
    rw [WideAt.sameKey_self (ky_key _), decide_eq_true rfl]
  · rw [Maps.sameKey_ne (ky_ne h), decide_eq_false h]
theorem Ph.step {p : Int} {f : FT} {D : DataW Unit} {left : Lit → Bool} {gl : List Int} (h : Ph p f D left gl) (hm : IsMap D) {k : Nat} (hk : k < 48) {v : Int × Int} (hv : f k = some v) (hl : left (ky k) = true) :
    Ph p f (D.put (ky k) (pr (stepV p v))) (fun z => left z && !z.sameKey (ky k)) (if goneP p v = true then gl ++ [(k : Int)] else gl) := by
  have hnk : (k : Int) ∉ gl := fun hx => by
    obtain ⟨j, _, e, h2, _⟩ := (h.mem _).1 hx
    have : j = k := by omega
    subst this
    rw [hl] at h2; cases h2
  have hhas : ∀ j : Nat, j < 48 → Maps.has (D.put (ky k) (pr (stepV p v))) (ky j) = (f j).isSome := fun j hj => by
    by_cases e : j = k
    · subst e
      rw [has_put_same hm (ky_key _), hv]; rfl
    · rw [has_put_other (ky_ne (by omega)), h.has j hj]
  refine ⟨hhas, fun kl hkl => ?_, fun kl hkl => ?_, fun j u hj hu hlj zd => ?_, fun j u hj hu hlj zd => ?_, ?_, fun x => ?_⟩
  · by_cases e : kl = ky k
    · exact ⟨k, hk, e⟩
    · rw [has_put_other e] at hkl
      exact h.only kl hkl
  · simp only [Bool.and_eq_true, Bool.not_eq_true'] at hkl
    have hne : kl ≠ ky k := fun e => by
      rw [e, same_ky, decide_eq_true rfl] at hkl
      cases hkl.2
    rw [has_put_other hne]
    exact h.lh kl hkl.1
  · simp only [Bool.and_eq_true, Bool.not_eq_true'] at hlj
    have hne : (j : Int) ≠ k := fun e => by
      rw [same_ky, decide_eq_true e] at hlj
      cases hlj.2
    rw [atKey_put_other (ky_ne hne)]
    exact h.at0 j u hj hu hlj.1 zd
  · by_cases e : j = k
    · subst e
      rw [hv] at hu
      cases hu
      exact atKey_put_same hm (ky_key _) _ _
    · rw [same_ky, decide_eq_false (by omega)] at hlj
      rw [atKey_put_other (ky_ne (by omega))]
      exact h.at1 j u hj hu (by simpa using hlj) zd
  · split
    · refine List.nodup_append.2 ⟨h.nd, by simp, fun a ha b hb => ?_⟩
      rw [List.mem_singleton.1 hb]
      exact fun e => hnk (e ▸ ha)
    · exact h.nd
  · have key : (∃ j : Nat, j < 48 ∧ x = j ∧ (left (ky j) && !(ky j).sameKey (ky k)) = false ∧ ∃ u, f j = some u ∧ goneP p u = true) ↔ (x ∈ gl ∨ (x = k ∧ goneP p v = true)) := by
      constructor
      · rintro ⟨j, hj, rfl, h2, u, hu, hg⟩
        by_cases e : j = k
        · subst e
          rw [hv] at hu
          cases hu
          exact .inr ⟨rfl, hg⟩
        · rw [same_ky, decide_eq_false (by omega)] at h2
          exact .inl ((h.mem _).2 ⟨j, hj, rfl, by simpa using h2, u, hu, hg⟩)
      · rintro (hx | ⟨rfl, hg⟩)
        · obtain ⟨j, hj, rfl, h2, u, hu, hg⟩ := (h.mem _).1 hx
          exact ⟨j, hj, rfl, by rw [h2]; rfl, u, hu, hg⟩
        · exact ⟨k, hk, rfl, by rw [same_ky, decide_eq_true rfl]; simp, v, hv, hg⟩
    rw [key]
    by_cases hg : goneP p v = true
    · rw [if_pos hg, List.mem_append, List.mem_singleton]
      simp [hg]
    · rw [if_neg hg]
      simp [hg]
theorem nodup48 : ((List.range 48).map (fun k : Nat => (k : Int))).Nodup := by
  unfold List.Nodup
  rw [List.pairwise_map]
  exact List.pairwise_lt_range.imp (fun h => by omega)
theorem Ph.len {p : Int} {f : FT} {D : DataW Unit} {left : Lit → Bool} {gl : List Int} (h : Ph p f D left gl) : gl.length ≤ 48 := by
  have h5 : ∀ x ∈ gl, x ∈ (List.range 48).map (fun k : Nat => (k : Int)) := fun x hx => by
    obtain ⟨j, hj, rfl, _⟩ := (h.mem x).1 hx
    exact List.mem_map.2 ⟨j, List.mem_range.2 hj, rfl⟩
  have h6 : gl.Perm (((List.range 48).map (fun k : Nat => (k : Int))).filter (fun x => decide (x ∈ gl))) := (List.perm_ext_iff_of_nodup h.nd (nodup48.filter _)).2 (fun x => by
    rw [List.mem_filter, decide_eq_true_iff]
    exact ⟨fun hx => ⟨h5 x hx, hx⟩, fun hx => hx.2⟩)
  have h7 := h6.length_eq
  have h8 := List.length_filter_le (fun x => decide (x ∈ gl)) ((List.range 48).map (fun k : Nat => (k : Int)))
  rw [List.length_map, List.length_range] at h8
  omega
theorem Ph.done {p : Int} {f : FT} {D : DataW Unit} {left : Lit → Bool} {gl : List Int} (h : Ph p f D left gl) (hl : ∀ kl, left kl = false) : Ab D (stepF p f) ∧ gl.Perm (goneF p f) := by
  refine ⟨⟨fun k hk => by rw [h.has k hk]; unfold stepF; cases f k <;> rfl, h.only, fun k v hk hv zd => ?_⟩, (List.perm_ext_iff_of_nodup h.nd (nums_nodup _)).2 fun x => ?_⟩
  · unfold stepF at hv
    cases hf : f k with
    | none => rw [hf] at hv; cases hv
    | some u =>
      rw [hf] at hv
      cases hv
      exact h.at1 k u hk hf (hl _) zd
  · rw [h.mem, mem_nums]
    constructor
    · rintro ⟨k, hk, rfl, _, v, hv, hg⟩
      exact ⟨k, hk, rfl, by rw [hv]; simp [hg]⟩
    · rintro ⟨k, hk, rfl, hs⟩
      refine ⟨k, hk, rfl, hl _, ?_⟩
      cases hf : f k with
      | none => rw [hf] at hs; cases hs
      | some v =>
        rw [hf] at hs
        refine ⟨v, rfl, ?_⟩
        by_cases hg : goneP p v = true
        · exact hg
        · simp [hg] at hs
theorem stepV_good {p : Int} {v : Int × Int} (h : (0 ≤ v.1 ∧ v.1 ≤ 1073741824) ∧ 0 ≤ v.2 ∧ v.2 ≤ 1073741824) : (0 ≤ (stepV p v).1 ∧ (stepV p v).1 ≤ 1073741824) ∧ 0 ≤ (stepV p v).2 ∧ (stepV p v).2 ≤ 1073741824 := by
  unfold stepV
  dsimp only
  refine ⟨?_, by omega⟩
  split
  · exact h.1
  · split <;> omega
theorem GoodF.tick {p : Int} {f : FT} (h : GoodF f) : GoodF (tickF p f) := by
  intro k v hv
  unfold tickF at hv
  cases hf : f k with
  | none => rw [hf] at hv; cases hv
  | some u =>
    rw [hf] at hv
    dsimp only at hv
    split at hv
    · cases hv
    · cases hv
      exact stepV_good (h k u hf)
theorem GoodF.hear {f : FT} (h : GoodF f) (who : Int) : GoodF (hearF f who).2 := by
  unfold hearF
  split
  · cases hf : f who.toNat with
    | some u =>
      dsimp only
      intro k v hv
      unfold upd at hv
      split at hv
      · cases hv
        exact ⟨(h _ u hf).1, by show (0 : Int) ≤ 0; decide, by show (0 : Int) ≤ 1073741824; decide⟩
      · exact h k v hv
    | none =>
      dsimp only
      split
      · exact h
      · intro k v hv
        have hv : upd f who.toNat (some (0, 0)) k = some v := hv
        unfold upd at hv
        split at hv
        · cases hv
          exact ⟨by decide, by decide⟩
        · exact h k v hv
  · exact h
theorem GoodF.drop {f : FT} (h : GoodF f) (who : Int) : GoodF (dropF f who) := by
  unfold dropF
  split
  · intro k v hv
    unfold upd at hv
    split at hv
    · cases hv
    · exact h k v hv
  · exact h
theorem good_none : GoodF (fun _ => none) := fun k v h => by cases h
/-- The loop that drops. -/
def dropL (f : FT) (l : List Int) : FT := l.foldl dropF f
theorem dropL_at : ∀ (l : List Int) (g : FT) (k : Nat), k < 48 → dropL g l k = if (k : Int) ∈ l then none else g k
  | [], g, k, _ => by simp [dropL]
  | x :: l, g, k, hk => by
    show dropL (dropF g x) l k = _
    rw [dropL_at l (dropF g x) k hk]
    by_cases h1 : (k : Int) ∈ l
    · rw [if_pos h1, if_pos (List.mem_cons_of_mem _ h1)]
    · rw [if_neg h1]
      by_cases h2 : (k : Int) = x
      · rw [if_pos (by rw [h2]; exact List.mem_cons_self)]
        unfold dropF
        rw [if_pos (by omega)]
        unfold upd
        rw [if_pos (by omega)]
      · rw [if_neg (by intro h; rcases List.mem_cons.1 h with h | h; exact h2 h; exact h1 h)]
        unfold dropF
        split
        · unfold upd
          rw [if_neg (by omega)]
        · rfl
theorem drop_tick {p : Int} {f : FT} {gl : List Int} (h : gl.Perm (goneF p f)) : ∀ k, k < 48 → dropL (stepF p f) gl k = tickF p f k := by
  intro k hk
  rw [dropL_at gl _ k hk]
  have hm : (k : Int) ∈ gl ↔ ∃ v, f k = some v ∧ goneP p v = true := by
    rw [h.mem_iff]
    unfold goneF
    rw [mem_nums]
    constructor
    · rintro ⟨j, _, e, hs⟩
      have : k = j := by omega
      subst this
      cases hf : f k with
      | none => rw [hf] at hs; cases hs
      | some v =>
        rw [hf] at hs
        refine ⟨v, rfl, ?_⟩
        by_cases hg : goneP p v = true
        · exact hg
        · simp [hg] at hs
    · rintro ⟨v, hv, hg⟩
      exact ⟨k, hk, rfl, by rw [hv]; simp [hg]⟩
  unfold tickF stepF
  cases hf : f k with
  | none => rw [if_neg (fun q => by obtain ⟨v, hv, _⟩ := hm.1 q; rw [hf] at hv; cases hv)]; rfl
  | some v =>
    dsimp only
    by_cases hg : goneP p v = true
    · rw [if_pos (hm.2 ⟨v, hf, hg⟩), if_pos hg]
    · rw [if_neg (fun q => by obtain ⟨u, hu, hgu⟩ := hm.1 q; rw [hf] at hu; cases hu; exact hg hgu), if_neg hg]
      rfl
section
variable {ops : Array Oper} {rest : List Oper} {o : Oper} {a : Act} {Q : Exit → Act → World → Prop} {w : World}
theorem wl_next (hg : o.guard = none) (it : Operand) (hop : o.op = Op.next it false) (b r : Nat) (D : DataW Unit) (left : Lit → Bool) (cnt : Nat) (hit : a.eval it = .pointer (some ⟨r, 0, none⟩)) (h : w.ranges Try.prog 3 nearE b r 48 D left cnt)
    (hDone : (∀ kl, left kl = false) → wpList Try.prog ops Q rest (a.put o.dst (.tuple #[.bool false])) w)
    (hMore : ∀ (x va q : Int) (w' : World) (cnt' : Nat), left (ky x) = true → (∀ zd, D.atKey (ky x) zd = pr (va, q)) → w'.ranges Try.prog 3 nearE b r 48 D (fun z => left z && !z.sameKey (ky x)) cnt' → cnt' < cnt → w.grownBy w' (some r) → w'.heap.size = w.heap.size →
      (Instr.entry (.pointer (some ⟨r, 0, none⟩))).run Try.prog w' = .ok (.tuple #[.int .i64 x, .agg #[.int .i64 va, .int .i64 q]]) w' → wpList Try.prog ops Q rest (a.put o.dst (.tuple #[.bool true, .int .i64 x, .agg #[.int .i64 va, .int .i64 q]])) w') : wpList Try.prog ops Q (o :: rest) a w :=
  wpList_next_ranges w hg it hop 3 law3 nearE (Value.int .i64) nv (fun key kl hkey => by obtain ⟨x, hx, _⟩ := Maps.keyOf_i64 Try.underlying3 hkey; exact ⟨x, hx⟩) (fun v y hv => by obtain ⟨c, hc, _⟩ := nearE_inv hv; exact ⟨c, hc⟩)
    b r 48 D left cnt hit h (fun _ hl => hDone hl) (fun x c kl y w' cnt' hkey hlk hv hat hrg hlt hgr hsz hen => by
      obtain ⟨x', ex, rfl, _⟩ := Maps.keyOf_i64 Try.underlying3 hkey
      have e : x = x' := encZ_inj ex
      subst e
      obtain ⟨va, q⟩ := c
      rw [nearE_mk] at hv
      cases hv
      exact hMore x va q w' cnt' hlk hat hrg hlt hgr hsz hen)
end
theorem info3 : (Try.prog.info? 3).map (fun i => (i.zero, i.size, i.bytes)) = some (some (.int .i64 0), 1, 8) := by kernel_rfl
end Go.Proofs.Ytcopnddmkmgihaa.Mb
