/- Texts Mt, Mq, Nt, Nk, Nn, Sh, Wk, Wy, in one file, without what is not needed here. -/
import Derived.Shelf.Strings.Builder1
import Derived.Shelf.Small.Bits
import Derived.Shelf.Strconv.Itoa0
import Derived.Shelf.Strconv.Itoa1
import Derived.Shelf.LaysM
import Derived.Shelf.Strconv.Itoa2
import Derived.Shelf.Strconv.Itoa3
import Derived.Test.YtdaohldmojpihaaGreatDoorProg
import Derived.Lib.Strings
import Derived.Lib.Slices
import Derived.Lib.Walk
import Derived.Lib.Builder
import Derived.Lib.AppendStr
import Derived.Lib.UnsafeStr
import Derived.Laws.Externs
import Derived.Laws.BitsLemmas
import Derived.Deep.RegionHeld3
import Derived.Test.YtdaohldmojpihaaGreatDoorZNodeForgets7
namespace Go.Proofs.YtdaohldmojpihaaGreatDoor.Mb
open Go.RowKit Go.Maps Go.Sort Go.Shelf Go.ChangeMaps Go.MapKept Go.Proofs.YtdaohldmojpihaaGreatDoorW.PrintWords Go.Proofs.YtdaohldmojpihaaGreatDoorW.PrintLast Go.Proofs.YtdaohldmojpihaaGreatDoorW.PrintMore Go.Proofs.YtdaohldmojpihaaGreatDoorEv Go.Proofs.YtdaohldmojpihaaGreatDoorRx
set_option linter.unusedVariables false
set_option linter.unusedSimpArgs false
def goneP (p : Int) (v : Int × Int) : Bool := decide (0 < v.2) && decide (p < v.2)
def stepV (p : Int) (v : Int × Int) : Int × Int := (if goneP p v = true then v.1 else if v.2 = 0 then min (v.1 + 1) 1073741824 else 0, min (v.2 + 1) 1073741824)
def stepF (p : Int) (f : FT) : FT := fun k => (f k).map (stepV p)
def tickF (p : Int) (f : FT) : FT := fun k => match f k with | none => none | some v => if goneP p v = true then none else some (stepV p v)
def goneF (p : Int) (f : FT) : List Int := nums (fun k => match f k with | none => none | some v => if goneP p v = true then some v else none)
def GoodF (f : FT) : Prop := ∀ k v, f k = some v → (0 ≤ v.1 ∧ v.1 ≤ 1073741824) ∧ 0 ≤ v.2 ∧ v.2 ≤ 1073741824
theorem Ab.congr {D : DataW Unit} {f g : FT} (h : Ab D f) (e : ∀ k, k < 48 → f k = g k) : Ab D g :=
  ⟨fun k hk => by rw [← e k hk]; exact h.has k hk, h.only, fun k v hk hv => h.at_ k v hk (by rw [e k hk]; exact hv)⟩
structure Ph (p : Int) (f : FT) (D : DataW Unit) (left : Lit → Bool) (gl : List Int) : Prop where
  has : ∀ k : Nat, k < 48 → Maps.has D (ky k) = (f k).isSome
  only : ∀ kl, Maps.has D kl = true → ∃ k : Nat, k < 48 ∧ kl = ky k
  lh : ∀ kl, left kl = true → Maps.has D kl = true
  at0 : ∀ (k : Nat) v, k < 48 → f k = some v → left (ky k) = true → ∀ zd, D.atKey (ky k) zd = pr v
  at1 : ∀ (k : Nat) v, k < 48 → f k = some v → left (ky k) = false → ∀ zd, D.atKey (ky k) zd = pr (stepV p v)
  nd : gl.Nodup
  mem : ∀ x, x ∈ gl ↔ ∃ k : Nat, k < 48 ∧ x = k ∧ left (ky k) = false ∧ ∃ v, f k = some v ∧ goneP p v = true
theorem Ph.start {p : Int} {f : FT} {D : DataW Unit} (h : Ab D f) : Ph p f D (Maps.has D) [] := by
  refine ⟨h.has, h.only, fun _ h => h, fun k v hk hv _ => h.at_ k v hk hv, fun k v hk hv hl => ?_, List.nodup_nil, fun x => ?_⟩
  · rw [h.has k hk, hv] at hl; cases hl
  · constructor
    · intro hx; cases hx
    · rintro ⟨k, hk, _, hl, v, hv, _⟩
      rw [h.has k hk, hv] at hl; cases hl
theorem same_ky {a b : Int} : (ky a).sameKey (ky b) = decide (a = b) := by
  by_cases h : a = b
  · subst h
    rw [WideAt.sameKey_self (ky_key _), decide_eq_true rfl]
  · rw [Maps.sameKey_ne (ky_ne h), decide_eq_false h]
theorem Ph.step {p : Int} {f : FT} {D : DataW Unit} {left : Lit → Bool} {gl : List Int} (h : Ph p f D left gl) (hm : IsMap D) {k : Nat} (hk : k < 48) {v : Int × Int} (hv : f k = some v) (hl : left (ky k) = true) :
    Ph p f (D.put (ky k) (pr (stepV p v))) (fun z => left z && !z.sameKey (ky k)) (if goneP p v = true then gl ++ [(k : Int)] else gl) := by
  have hnk : (k : Int) ∉ gl := fun hx => by
    obtain ⟨j, _, e, h2, _⟩ := (h.mem _).1 hx
    have : j = k := by omega
    subst this
    rw [hl] at h2; cases h2
  have hhas : ∀ j : Nat, j < 48 → Maps.has (D.put (ky k) (pr (stepV p v))) (ky j) = (f j).isSome := fun j hj => by
    by_cases e : j = k
    · subst e
      rw [has_put_same hm (ky_key _), hv]; rfl
    · rw [has_put_other (ky_ne (by omega)), h.has j hj]
  refine ⟨hhas, fun kl hkl => ?_, fun kl hkl => ?_, fun j u hj hu hlj zd => ?_, fun j u hj hu hlj zd => ?_, ?_, fun x => ?_⟩
  · by_cases e : kl = ky k
    · exact ⟨k, hk, e⟩
    · rw [has_put_other e] at hkl
      exact h.only kl hkl
  · simp only [Bool.and_eq_true, Bool.not_eq_true'] at hkl
    have hne : kl ≠ ky k := fun e => by
      rw [e, same_ky, decide_eq_true rfl] at hkl
      cases hkl.2
    rw [has_put_other hne]
    exact h.lh kl hkl.1
  · simp only [Bool.and_eq_true, Bool.not_eq_true'] at hlj
    have hne : (j : Int) ≠ k := fun e => by
      rw [same_ky, decide_eq_true e] at hlj
      cases hlj.2
    rw [atKey_put_other (ky_ne hne)]
    exact h.at0 j u hj hu hlj.1 zd
  · by_cases e : j = k
    · subst e
      rw [hv] at hu
      cases hu
      exact atKey_put_same hm (ky_key _) _ _
    · rw [same_ky, decide_eq_false (by omega)] at hlj
      rw [atKey_put_other (ky_ne (by omega))]
      exact h.at1 j u hj hu (by simpa using hlj) zd
  · split
    · refine List.nodup_append.2 ⟨h.nd, by simp, fun a ha b hb => ?_⟩
      rw [List.mem_singleton.1 hb]
      exact fun e => hnk (e ▸ ha)
    · exact h.nd
  · have key : (∃ j : Nat, j < 48 ∧ x = j ∧ (left (ky j) && !(ky j).sameKey (ky k)) = false ∧ ∃ u, f j = some u ∧ goneP p u = true) ↔ (x ∈ gl ∨ (x = k ∧ goneP p v = true)) := by
      constructor
      · rintro ⟨j, hj, rfl, h2, u, hu, hg⟩
        by_cases e : j = k
        · subst e
          rw [hv] at hu
          cases hu
          exact .inr ⟨rfl, hg⟩
        · rw [same_ky, decide_eq_false (by omega)] at h2
          exact .inl ((h.mem _).2 ⟨j, hj, rfl, by simpa using h2, u, hu, hg⟩)
      · rintro (hx | ⟨rfl, hg⟩)
        · obtain ⟨j, hj, rfl, h2, u, hu, hg⟩ := (h.mem _).1 hx
          exact ⟨j, hj, rfl, by rw [h2]; rfl, u, hu, hg⟩
        · exact ⟨k, hk, rfl, by rw [same_ky, decide_eq_true rfl]; simp, v, hv, hg⟩
    rw [key]
    by_cases hg : goneP p v = true
    · rw [if_pos hg, List.mem_append, List.mem_singleton]
      simp [hg]
    · rw [if_neg hg]
      simp [hg]
theorem nodup48 : ((List.range 48).map (fun k : Nat => (k : Int))).Nodup := by
  unfold List.Nodup
  rw [List.pairwise_map]
  exact List.pairwise_lt_range.imp (fun h => by omega)
theorem Ph.len {p : Int} {f : FT} {D : DataW Unit} {left : Lit → Bool} {gl : List Int} (h : Ph p f D left gl) : gl.length ≤ 48 := by
  have h5 : ∀ x ∈ gl, x ∈ (List.range 48).map (fun k : Nat => (k : Int)) := fun x hx => by
    obtain ⟨j, hj, rfl, _⟩ := (h.mem x).1 hx
    exact List.mem_map.2 ⟨j, List.mem_range.2 hj, rfl⟩
  have h6 : gl.Perm (((List.range 48).map (fun k : Nat => (k : Int))).filter (fun x => decide (x ∈ gl))) := (List.perm_ext_iff_of_nodup h.nd (nodup48.filter _)).2 (fun x => by
    rw [List.mem_filter, decide_eq_true_iff]
    exact ⟨fun hx => ⟨h5 x hx, hx⟩, fun hx => hx.2⟩)
  have h7 := h6.length_eq
  have h8 := List.length_filter_le (fun x => decide (x ∈ gl)) ((List.range 48).map (fun k : Nat => (k : Int)))
  rw [List.length_map, List.length_range] at h8
  omega
theorem Ph.done {p : Int} {f : FT} {D : DataW Unit} {left : Lit → Bool} {gl : List Int} (h : Ph p f D left gl) (hl : ∀ kl, left kl = false) : Ab D (stepF p f) ∧ gl.Perm (goneF p f) := by
  refine ⟨⟨fun k hk => by rw [h.has k hk]; unfold stepF; cases f k <;> rfl, h.only, fun k v hk hv zd => ?_⟩, (List.perm_ext_iff_of_nodup h.nd (nums_nodup _)).2 fun x => ?_⟩
  · unfold stepF at hv
    cases hf : f k with
    | none => rw [hf] at hv; cases hv
    | some u =>
      rw [hf] at hv
      cases hv
      exact h.at1 k u hk hf (hl _) zd
  · rw [h.mem, mem_nums]
    constructor
    · rintro ⟨k, hk, rfl, _, v, hv, hg⟩
      exact ⟨k, hk, rfl, by rw [hv]; simp [hg]⟩
    · rintro ⟨k, hk, rfl, hs⟩
      refine ⟨k, hk, rfl, hl _, ?_⟩
      cases hf : f k with
      | none => rw [hf] at hs; cases hs
      | some v =>
        rw [hf] at hs
        refine ⟨v, rfl, ?_⟩
        by_cases hg : goneP p v = true
        · exact hg
        · simp [hg] at hs
theorem stepV_good {p : Int} {v : Int × Int} (h : (0 ≤ v.1 ∧ v.1 ≤ 1073741824) ∧ 0 ≤ v.2 ∧ v.2 ≤ 1073741824) : (0 ≤ (stepV p v).1 ∧ (stepV p v).1 ≤ 1073741824) ∧ 0 ≤ (stepV p v).2 ∧ (stepV p v).2 ≤ 1073741824 := by
  unfold stepV
  dsimp only
  refine ⟨?_, by omega⟩
  split
  · exact h.1
  · split <;> omega
theorem GoodF.tick {p : Int} {f : FT} (h : GoodF f) : GoodF (tickF p f) := by
  intro k v hv
  unfold tickF at hv
  cases hf : f k with
  | none => rw [hf] at hv; cases hv
  | some u =>
    rw [hf] at hv
    dsimp only at hv
    split at hv
    · cases hv
    · cases hv
      exact stepV_good (h k u hf)
theorem GoodF.hear {f : FT} (h : GoodF f) (who : Int) : GoodF (hearF f who).2 := by
  unfold hearF
  split
  · cases hf : f who.toNat with
    | some u =>
      dsimp only
      intro k v hv
      unfold upd at hv
      split at hv
      · cases hv
        exact ⟨(h _ u hf).1, by show (0 : Int) ≤ 0; decide, by show (0 : Int) ≤ 1073741824; decide⟩
      · exact h k v hv
    | none =>
      dsimp only
      split
      · exact h
      · intro k v hv
        have hv : upd f who.toNat (some (0, 0)) k = some v := hv
        unfold upd at hv
        split at hv
        · cases hv
          exact ⟨by decide, by decide⟩
        · exact h k v hv
  · exact h
theorem GoodF.drop {f : FT} (h : GoodF f) (who : Int) : GoodF (dropF f who) := by
  unfold dropF
  split
  · intro k v hv
    unfold upd at hv
    split at hv
    · cases hv
    · exact h k v hv
  · exact h
theorem good_none : GoodF (fun _ => none) := fun k v h => by cases h
def dropL (f : FT) (l : List Int) : FT := l.foldl dropF f
theorem dropL_at : ∀ (l : List Int) (g : FT) (k : Nat), k < 48 → dropL g l k = if (k : Int) ∈ l then none else g k
  | [], g, k, _ => by simp [dropL]
  | x :: l, g, k, hk => by
    show dropL (dropF g x) l k = _
    rw [dropL_at l (dropF g x) k hk]
    by_cases h1 : (k : Int) ∈ l
    · rw [if_pos h1, if_pos (List.mem_cons_of_mem _ h1)]
    · rw [if_neg h1]
      by_cases h2 : (k : Int) = x
      · rw [if_pos (by rw [h2]; exact List.mem_cons_self)]
        unfold dropF
        rw [if_pos (by omega)]
        unfold upd
        rw [if_pos (by omega)]
      · rw [if_neg (by intro h; rcases List.mem_cons.1 h with h | h; exact h2 h; exact h1 h)]
        unfold dropF
        split
        · unfold upd
          rw [if_neg (by omega)]
        · rfl
theorem drop_tick {p : Int} {f : FT} {gl : List Int} (h : gl.Perm (goneF p f)) : ∀ k, k < 48 → dropL (stepF p f) gl k = tickF p f k := by
  intro k hk
  rw [dropL_at gl _ k hk]
  have hm : (k : Int) ∈ gl ↔ ∃ v, f k = some v ∧ goneP p v = true := by
    rw [h.mem_iff]
    unfold goneF
    rw [mem_nums]
    constructor
    · rintro ⟨j, _, e, hs⟩
      have : k = j := by omega
      subst this
      cases hf : f k with
      | none => rw [hf] at hs; cases hs
      | some v =>
        rw [hf] at hs
        refine ⟨v, rfl, ?_⟩
        by_cases hg : goneP p v = true
        · exact hg
        · simp [hg] at hs
    · rintro ⟨v, hv, hg⟩
      exact ⟨k, hk, rfl, by rw [hv]; simp [hg]⟩
  unfold tickF stepF
  cases hf : f k with
  | none => rw [if_neg (fun q => by obtain ⟨v, hv, _⟩ := hm.1 q; rw [hf] at hv; cases hv)]; rfl
  | some v =>
    dsimp only
    by_cases hg : goneP p v = true
    · rw [if_pos (hm.2 ⟨v, hf, hg⟩), if_pos hg]
    · rw [if_neg (fun q => by obtain ⟨u, hu, hgu⟩ := hm.1 q; rw [hf] at hu; cases hu; exact hg hgu), if_neg hg]
      rfl
section
variable {ops : Array Oper} {rest : List Oper} {o : Oper} {a : Act} {Q : Exit → Act → World → Prop} {w : World}
theorem wl_next (hg : o.guard = none) (it : Operand) (hop : o.op = Op.next it false) (b r : Nat) (D : DataW Unit) (left : Lit → Bool) (cnt : Nat) (hit : a.eval it = .pointer (some ⟨r, 0, none⟩)) (h : w.ranges Tryz.prog 3 nearE b r 48 D left cnt)
    (hDone : (∀ kl, left kl = false) → wpList Tryz.prog ops Q rest (a.put o.dst (.tuple #[.bool false])) w)
    (hMore : ∀ (x va q : Int) (w' : World) (cnt' : Nat), left (ky x) = true → (∀ zd, D.atKey (ky x) zd = pr (va, q)) → w'.ranges Tryz.prog 3 nearE b r 48 D (fun z => left z && !z.sameKey (ky x)) cnt' → cnt' < cnt → w.grownBy w' (some r) → w'.heap.size = w.heap.size →
      (Instr.entry (.pointer (some ⟨r, 0, none⟩))).run Tryz.prog w' = .ok (.tuple #[.int .i64 x, .agg #[.int .i64 va, .int .i64 q]]) w' → wpList Tryz.prog ops Q rest (a.put o.dst (.tuple #[.bool true, .int .i64 x, .agg #[.int .i64 va, .int .i64 q]])) w') : wpList Tryz.prog ops Q (o :: rest) a w :=
  wpList_next_ranges w hg it hop 3 law3 nearE (Value.int .i64) nv (fun key kl hkey => by obtain ⟨x, hx, _⟩ := Maps.keyOf_i64 Tryz.underlying3 hkey; exact ⟨x, hx⟩) (fun v y hv => by obtain ⟨c, hc, _⟩ := nearE_inv hv; exact ⟨c, hc⟩)
    b r 48 D left cnt hit h (fun _ hl => hDone hl) (fun x c kl y w' cnt' hkey hlk hv hat hrg hlt hgr hsz hen => by
      obtain ⟨x', ex, rfl, _⟩ := Maps.keyOf_i64 Tryz.underlying3 hkey
      have e : x = x' := encZ_inj ex
      subst e
      obtain ⟨va, q⟩ := c
      rw [nearE_mk] at hv
      cases hv
      exact hMore x va q w' cnt' hlk hat hrg hlt hgr hsz hen)
end
theorem info3 : (Tryz.prog.info? 3).map (fun i => (i.zero, i.size, i.bytes)) = some (some (.int .i64 0), 1, 8) := by kernel_rfl
end Go.Proofs.YtdaohldmojpihaaGreatDoor.Mb

namespace Go.Proofs.YtdaohldmojpihaaGreatDoor.Mb
open Go.RowKit Go.Maps Go.Sort Go.Shelf Go.ChangeMaps Go.MapKept Go.Proofs.YtdaohldmojpihaaGreatDoorW.PrintWords Go.Proofs.YtdaohldmojpihaaGreatDoorW.PrintLast Go.Proofs.YtdaohldmojpihaaGreatDoorW.PrintMore Go.Proofs.YtdaohldmojpihaaGreatDoorEv Go.Proofs.YtdaohldmojpihaaGreatDoorRx
set_option linter.unusedVariables false
set_option linter.unusedSimpArgs false
theorem n_kept {w1 w4 : World} {base n : Nat} {u : Value} {xs : List Value} {cs : Array Value} {T : TypeId} (h : w1.ownsRow base 3 1 u n xs) (hg : (w1.alloc (.cells cs T (0, 0))).grownBy w4 u.ownBlock) : w4.heap[w1.heap.size]? = some (.cells cs T (0, 0)) := by
  refine (hg.block _ (blk_lt (blk_new w1 (.cells cs T (0, 0)))) ?_).trans (blk_new w1 _)
  rcases h.2 with ⟨rfl, _⟩ | ⟨g, cap, cur, rfl, _, h1, _⟩
  · intro e; cases e
  · intro e
    have := blk_lt h1
    have e2 : w1.heap.size = g := Option.some.inj e
    omega
theorem ranges_keep {P : Program} {k : TypeId} {R : Value → Option (DataW Unit × List MemPlace)} {w w1 : World} {b r n : Nat} {D : DataW Unit} {left : Lit → Bool} {cnt : Nat} (h : w.ranges P k R b r n D left cnt) (h1 : w1.heap[b]? = w.heap[b]?) (h2 : w1.heap[r]? = w.heap[r]?) : w1.ranges P k R b r n D left cnt := by
  obtain ⟨es, clock, since, seen, c0, hb, F, hs, hD, hr, rest⟩ := h
  exact ⟨es, clock, since, seen, c0, h1.trans hb, F, hs, hD, h2.trans hr, rest⟩
theorem gone_end {w w1 w4 : World} {t b r n m : Nat} {u u4 : Value} {xs ys : List Value} {va vq sq : Int} {D : DataW Unit} {left : Lit → Bool} {cnt : Nat} (hr : w.heap.size = r) (HRT : t < r ∧ b < r) (hs : r + 1 ≤ w1.heap.size) (HG1 : w.grownBy w1 (some b)) (HTB1 : w1.heap[t]? = some (.cells #[.map (some b)] 114 (0, 0)))
    (HRG1 : w1.ranges Tryz.prog 3 nearE b r 48 D left cnt) (HOW1 : w1.ownsRow (r + 1) 3 1 u n xs) (ho4 : w4.ownsRow (r + 1) 3 1 u4 m ys) (hb4 : Below (r + 1) (w1.alloc (.cells #[.int .i64 va, .int .i64 vq] 120 (0, 0))) w4) (hg4 : (w1.alloc (.cells #[.int .i64 va, .int .i64 vq] 120 (0, 0))).grownBy w4 u.ownBlock) :
    (w4.setCell ⟨w1.heap.size, 1, none⟩ (.int .i64 sq)).drew.heap[w1.heap.size]? = some (.cells #[.int .i64 va, .int .i64 sq] 120 (0, 0)) ∧ (w4.setCell ⟨w1.heap.size, 1, none⟩ (.int .i64 sq)).drew.heap[t]? = some (.cells #[.map (some b)] 114 (0, 0)) ∧ (w4.setCell ⟨w1.heap.size, 1, none⟩ (.int .i64 sq)).drew.ranges Tryz.prog 3 nearE b r 48 D left cnt ∧
      (w4.setCell ⟨w1.heap.size, 1, none⟩ (.int .i64 sq)).drew.ownsRow (r + 1) 3 1 u4 m ys ∧ w.grownBy (w4.setCell ⟨w1.heap.size, 1, none⟩ (.int .i64 sq)).drew (some b) ∧ r + 1 ≤ (w4.setCell ⟨w1.heap.size, 1, none⟩ (.int .i64 sq)).drew.heap.size := by
  have hn := n_kept HOW1 hg4
  have hsame : ∀ j, j ≠ w1.heap.size → (w4.setCell ⟨w1.heap.size, 1, none⟩ (.int .i64 sq)).heap[j]? = w4.heap[j]? := fun j hj => Below.heap_setCell w4 ⟨w1.heap.size, 1, none⟩ _ j hj
  have hlow : ∀ j, j < r + 1 → (w4.setCell ⟨w1.heap.size, 1, none⟩ (.int .i64 sq)).heap[j]? = w1.heap[j]? := fun j hj => by
    rw [hsame j (by omega), hb4.block j hj]
    exact (below_alloc (Below.refl w1.heap.size w1) _).block j (by omega)
  have hsz : w1.heap.size + 1 ≤ w4.heap.size := by have := hb4.size; simp at this; omega
  have hsz2 : (w4.setCell ⟨w1.heap.size, 1, none⟩ (.int .i64 sq)).heap.size = w4.heap.size := by simp [World.setCell]
  refine ⟨blk_set hn 1 _, (hlow t (by omega)).trans HTB1, ranges_keep HRG1 (hlow b (by omega)) (hlow r (by omega)), ?_, ?_, ?_⟩
  · have h1 : (w4.setCell ⟨w1.heap.size, 1, none⟩ (.int .i64 sq)).ownsRow (r + 1) 3 1 u4 m ys := by
      refine own_setCell ho4 ?_ _
      rcases ho4.2 with ⟨rfl, _⟩ | ⟨g, cap, cur, rfl, _, h2, _⟩
      · intro e; cases e
      · intro e
        have e2 : w1.heap.size = g := Option.some.inj e
        rw [e2, h2] at hn
        cases hn
    exact pw_own_below h1 (pw_below_drewN (Below.refl _ _) 1)
  · refine ⟨?_, ?_, ?_, ?_, fun i hi hne => ?_⟩
    · exact (show w4.os = w.os from hb4.os.trans HG1.os)
    · exact (show w4.tape = w.tape from hb4.tape.trans HG1.tape)
    · exact (show w4.output = w.output from hb4.output.trans HG1.output)
    · show w.heap.size ≤ (w4.setCell ⟨w1.heap.size, 1, none⟩ (.int .i64 sq)).heap.size
      omega
    · exact (hlow i (by omega)).trans (HG1.block i hi hne)
  · show r + 1 ≤ (w4.setCell ⟨w1.heap.size, 1, none⟩ (.int .i64 sq)).heap.size
    omega
set_option maxRecDepth 100000 in
set_option maxHeartbeats 8000000 in
theorem Tick_calls (w : World) (t b : Nat) (f : FT) (h : Tab w t b f) (hgood : GoodF f) (p : Int) :
    Calls Tryz.prog 31 #[.pointer (some ⟨t, 0, none⟩), .int .i64 p] w fun e w' => ∃ v, e = .returned v ∧ Hid (w'.ownsRow w.heap.size 3 1 v (goneF p f).length ((goneF p f).map (Value.int .i64))) ∧ Hid (Tab w' t b (tickF p f)) ∧ Hid (w.grownBy w' (some b)) := by
  have c0 : w.cell? ⟨t, 0, none⟩ = some (.map (some b)) := blk_cell h.blk 0
  have HT := Lib.hid h
  have HGD := Lib.hid hgood
  obtain ⟨D, hown, hab⟩ := h.map
  have HO := Lib.hid hown
  have HA := Lib.hid hab
  obtain ⟨i0, hi0, hz0, hz1, hz2⟩ := info_parts info3
  clear h hown hab hgood
  go_enter Tryz.func31, Tryz.ntmps31
  go_wp2_with (at_range; refine wpList_range_own _ rfl _ 112 rfl 3 120 law3 Tryz.underlying112 nearE b 48 D rfl HO.out ?_; intro w0 hrg0 hg0 hs0; have HR0 := Lib.hid hrg0; have HG0 := Lib.hid hg0; have HS0 := Lib.hid hs0; clear hrg0 hg0 hs0)
  go_frame
  obtain ⟨r, hr⟩ : ∃ r, w.heap.size = r := ⟨_, rfl⟩
  have HRE := Lib.hid hr
  rw [hr] at HR0 HS0 ⊢
  clear hr
  have HRT : Hid (t < r ∧ b < r) := Lib.hid (by have := HT.out.lt; have := HRE.out; omega)
  go_loopw [5] (fun v5 wr => ∃ (left : Lit → Bool) (cnt : Nat) (D' : DataW Unit) (gl : List Int) (u : Value), u = v5 ∧ Hid (wr.ranges Tryz.prog 3 nearE b r 48 D' left cnt) ∧ Hid (Ph p f D' left gl) ∧ Hid (wr.ownsRow (r + 1) 3 1 u gl.length (gl.map (Value.int .i64))) ∧ Hid (w.grownBy wr (some b)) ∧ Hid (wr.heap[t]? = some (.cells #[.map (some b)] 114 (0, 0))) ∧ Hid (r + 1 ≤ wr.heap.size)) (fun _ wr => wr.rangeLeft b r)
  case atStart => exact ⟨_, _, D, [], _, rfl, HR0, Lib.hid (Ph.start HA.out), Lib.hid (World.ownsRow_nil _ _ _ _), Lib.hid (HG0.out.but _), Lib.hid ((HG0.out.block t HT.out.lt.1 (by simp)).trans HT.out.blk), Lib.hid (by rw [HS0.out]; exact Nat.le_refl _)⟩
  case round =>
    clear HR0 HG0 HS0 HO HA
    obtain ⟨left, cnt, D', gl, u, hu, HRG, HPH, HOW, HGW, HTB, HSZ⟩ := hrel
    subst hu
    go_wp2_with (at_next; refine wl_next rfl _ rfl b r D' left cnt rfl HRG.out ?_ ?_)
    · intro hl0
      obtain ⟨hab, hpe⟩ := HPH.out.done hl0
      have HAB := Lib.hid hab
      have HPE := Lib.hid hpe
      have HMM := Lib.hid HPH.out.mem
      have HOM := Lib.hid HRG.out.owns
      have hm48 := HPH.out.len
      obtain ⟨m, hm⟩ : ∃ m, gl.length = m := ⟨_, rfl⟩
      have HM := Lib.hid hm
      have HSHAPE : Hid (∃ A c, u = .slice A m c ∧ (A = none → m = 0)) := Lib.hid (by
        rcases HOW.out.2 with ⟨h1, h2⟩ | ⟨g, cap, cur, h1, _⟩
        · exact ⟨none, 0, by rw [h1, ← hm, h2], fun _ => by omega⟩
        · exact ⟨_, cap, by rw [h1, hm], fun h => by cases h⟩)
      rw [hm] at HOW hm48
      obtain ⟨A, c, hu, hA0⟩ := HSHAPE.out
      have HA0 := Lib.hid hA0
      subst hu
      have HWM0 : Hid (∃ D2, wr.ownsMap Tryz.prog 3 nearE b 48 D2 ∧ Ab D2 (dropL (stepF p f) (gl.take 0))) := Lib.hid ⟨D', HOM.out, HAB.out⟩
      clear hab hpe hm hA0 hl0 HRG HPH HSZ HAB HOM HSHAPE c0
      go_wp2_with fail
      go_loopw [59] (fun v59 w' => ∃ i : Nat, i ≤ m ∧ v59 = .int .i64 i ∧ Hid (∃ D2, w'.ownsMap Tryz.prog 3 nearE b 48 D2 ∧ Ab D2 (dropL (stepF p f) (gl.take i))) ∧ Hid (w'.ownsRow (r + 1) 3 1 (.slice A m c) m (gl.map (Value.int .i64))) ∧ Hid (w.grownBy w' (some b)) ∧ Hid (w'.heap[t]? = some (.cells #[.map (some b)] 114 (0, 0)))) (fun v59 _ => m - (intOf v59).toNat)
      case atStart => exact ⟨0, by omega, rfl, HWM0, HOW, HGW, HTB⟩
      case round =>
        clear HWM0 HOW HGW HTB
        obtain ⟨wt, hwt⟩ : ∃ wt : World, wt = wr := ⟨wr, rfl⟩
        subst hwt
        obtain ⟨i, hi, rfl, HWM, HOW, HGW, HTB⟩ := hrel
        have c2 : wt.cell? ⟨t, 0, none⟩ = some (.map (some b)) := blk_cell HTB.out 0
        by_cases hlt : i < m
        · have hil : i < gl.length := by rw [HM.out]; exact hlt
          have hk1 : (i : Int) < (m : Int) := by omega
          have hs1 : -9223372036854775808 ≤ (i : Int) + 1 := by omega
          have hs2 : (i : Int) + 1 ≤ 9223372036854775807 := by omega
          obtain ⟨x, hx⟩ : ∃ x, gl[i] = x := ⟨_, rfl⟩
          have HTK : Hid (gl.take (i + 1) = gl.take i ++ [x]) := Lib.hid (by rw [List.take_succ_eq_append_getElem hil, hx])
          obtain ⟨kx, hkx, ekx, _⟩ := (HMM.out x).1 (hx ▸ List.getElem_mem hil)
          have HKX := Lib.hid hkx
          have HEX := Lib.hid ekx
          obtain ⟨g, hg, hcell⟩ : ∃ g, A = some ⟨g, 0, none⟩ ∧ wt.cell? ⟨g, i, none⟩ = some (.int .i64 x) := by
            rcases HOW.out.2 with ⟨h1, h2⟩ | ⟨g, cap, cur, h1, _, h2, _, _, _, h3⟩
            · omega
            · injection h1 with h1 _ _
              refine ⟨g, h1, ?_⟩
              rw [blk_cell h2, ← Array.getElem?_toList]
              have e : (cur.toList.take (m * 1))[i]? = (gl.map (Value.int .i64))[i]? := by rw [h3]
              rw [List.getElem?_take_of_lt (by omega), List.getElem?_map, List.getElem?_eq_getElem hil, hx] at e
              exact e
          subst hg
          obtain ⟨D2, ho2, ha2⟩ := HWM.out
          have HO2 := Lib.hid ho2
          have HA2 := Lib.hid ha2
          have HW2 := Lib.hid (keyOf_int_mk Tryz.underlying3 (wf_who (k := x) (by omega)))
          have HGB : Hid (b < r + 1) := Lib.hid (by have := HRT.out.2; omega)
          clear hx hkx ekx ho2 ha2 HWM
          go_wp2_with (at_delete; refine wpList_delete_own _ rfl _ _ 112 3 rfl 120 law3 Tryz.underlying112 nearE b 48 D2 rfl HO2.out _ (ky x) rfl HW2.out ?_; intro w5 ho5 ht5; have HO5 := Lib.hid ho5; have HT5 := Lib.hid ht5.grown; clear ho5 ht5)
          go_roundw
          case rel =>
            refine ⟨i + 1, by omega, by simp, Lib.hid ⟨_, HO5.out, ?_⟩, Lib.hid (own_other HOW.out HT5.out (.inr (fun e => ?_))), Lib.hid (HGW.out.andThen HT5.out (fun j e => .inr e)), Lib.hid ((HT5.out.block t (blk_lt HTB.out) (fun e => HT.out.ne (Option.some.inj e))).trans HTB.out)⟩
            · rw [HTK.out]
              unfold dropL
              rw [List.foldl_append]
              show Ab _ (dropF (dropL (stepF p f) (gl.take i)) x)
              unfold dropF
              have hx2 := HEX.out
              have hx3 := HKX.out
              rw [if_pos (by omega)]
              have := HA2.out.del (k := x.toNat) (by omega)
              rw [show ((x.toNat : Nat) : Int) = x by omega] at this
              exact this
            · have e2 : g = b := Option.some.inj e
              rcases HOW.out.2 with ⟨h1, _⟩ | ⟨g', cap, cur, h1, h2, _⟩
              · cases h1
              · injection h1 with h1 _ _
                have h1 := Option.some.inj h1
                have h1 : g = g' := by injection h1
                have := HGB.out
                omega
          case measure => simp [intOf]; omega
        · obtain rfl : i = m := by omega
          have HTK : Hid (gl.take i = gl) := Lib.hid (List.take_of_length_le (by rw [HM.out]; exact Nat.le_refl _))
          obtain ⟨D2, ho2, ha2⟩ := HWM.out
          rw [HTK.out] at ha2
          have HO2 := Lib.hid ho2
          have HA2 := Lib.hid (ha2.congr (drop_tick HPE.out))
          have HGL : Hid ((goneF p f).length = i) := Lib.hid (by rw [← HPE.out.length_eq, HM.out])
          have HSO : Hid (gl.mergeSort (fun x y => decide (x ≤ y)) = goneF p f) := Lib.hid (nums_sorted _ HPE.out)
          clear ho2 ha2 HWM c2
          rcases HOW.out.2 with ⟨h1, h2⟩ | ⟨g, cap, cur, h1, hge, hgb, h3, h4, h5, h6⟩
          · injection h1 with h1 _ h3
            subst h1 h3 h2
            have cS : ∀ W, Calls Tryz.prog 69 #[.slice none 0 0] W fun e w' => e = .returned (.tuple #[]) ∧ w' = W := fun W => AnyM.slices_Sort_int_none Tryz.sortA none 0 W
            go_wp2_with (go_at_call 69; refine (cS _).mono ?_; rintro e w' ⟨rfl, rfl⟩)
            go_ret
            refine ⟨_, rfl, Lib.hid ?_, Lib.hid ⟨HTB.out, _, HO2.out, HA2.out⟩, HGW⟩
            have : goneF p f = [] := List.eq_nil_of_length_eq_zero HGL.out
            rw [this]
            exact World.ownsRow_nil _ _ _ _
          · injection h1 with h1 _ h7
            subst h1 h7
            have hH : Holds encZ wt g 0 gl.toArray := holds_of_block_i hgb (by rw [HM.out]; simpa using h6)
            have HGT := Lib.hid (blk_lt hgb)
            have cS := AnyM.slices_Sort_int Tryz.sortA g 0 c gl wt hH HGT.out (by rw [HM.out]; omega)
            rw [HM.out] at cS
            have CS := Lib.hid cS
            have HOR := Lib.hid (fun (n : Nat) (os : Array Obj) => ownsRow_sorted_i (n := n) (os := os) (ss := gl) (ts := gl.mergeSort (fun x y => decide (x ≤ y))) (base := r + 1) (List.length_mergeSort _) hge hgb (by rw [HM.out]; exact h3) h4 h5)
            have HNB : Hid (g ≠ b ∧ g ≠ t) := Lib.hid (by have := HRT.out; omega)
            clear hH cS hgb h3 h4 h5 h6 hge
            go_wp2_with fail
            refine CS.out.mono ?_
            rintro e w6 ⟨rfl, nn, os, rfl⟩
            have HSG := Lib.hid (grownBy_sorted_i (w := wt) (g := g) (n := nn) (os := os) (gl.mergeSort (fun x y => decide (x ≤ y))).toArray)
            have HRES := Lib.hid (HOR.out nn os)
            generalize grow (putRow encZ (Sort.ahead wt nn) g 0 (gl.mergeSort (fun x y => decide (x ≤ y))).toArray) os = w6 at HSG HRES ⊢
            go_wp2_with fail
            go_ret
            refine ⟨_, rfl, Lib.hid ?_, Lib.hid ⟨(HSG.out.block t (blk_lt HTB.out) (fun e => HNB.out.2 (Option.some.inj e).symm)).trans HTB.out, _, HO2.out.kept HSG.out (fun e => HNB.out.1 (Option.some.inj e).symm), HA2.out⟩, Lib.hid (HGW.out.andThen HSG.out (fun j e => .inl (by cases e; have := HRE.out; have := HOW.out.lt g rfl; omega)))⟩
            have := HRES.out
            rw [HSO.out, HM.out] at this
            rw [HGL.out]
            exact ownsRow_base_a this (by have := HRE.out; omega)
    · intro x va vq w1 cnt1 hlx hat hrg1 hlt hg1 hs1 hen
      have HEN := Lib.hid hen
      have HRG1 := Lib.hid hrg1
      have HLT := Lib.hid hlt
      have HLX := Lib.hid hlx
      have HG1 : Hid (w.grownBy w1 (some b)) := Lib.hid (HGW.out.andThen hg1 (fun j e => .inl (by cases e; exact Nat.le_of_eq HRE.out)))
      have HTB1 : Hid (w1.heap[t]? = some (.cells #[.map (some b)] 114 (0, 0))) := Lib.hid ((hg1.block t (blk_lt HTB.out) (fun e => by have := HRT.out.1; have := Option.some.inj e; omega)).trans HTB.out)
      have HOW1 : Hid (w1.ownsRow (r + 1) 3 1 u gl.length (gl.map (Value.int .i64))) := Lib.hid (own_other HOW.out hg1 (by
        rcases HOW.out.2 with ⟨rfl, _⟩ | ⟨g, cap, cur, rfl, h1, _⟩
        · exact .inl rfl
        · exact .inr (fun e => by have : g = r := Option.some.inj e; omega)))
      have HSZ1 : Hid (r + 1 ≤ w1.heap.size) := Lib.hid (by rw [hs1]; exact HSZ.out)
      obtain ⟨k, hk, ek⟩ := HPH.out.only _ (HPH.out.lh _ hlx)
      have ex : x = (k : Int) := by injection ek
      subst ex
      have HK := Lib.hid hk
      obtain ⟨v, hv⟩ : ∃ v, f k = some v := by
        have h1 := HPH.out.has k hk
        rw [HPH.out.lh _ hlx] at h1
        cases hf : f k with
        | none => rw [hf] at h1; cases h1
        | some v => exact ⟨v, rfl⟩
      have hvv : v = (va, vq) := pr_inj (((HPH.out.at0 k v hk hv hlx) .nil).symm.trans (hat .nil))
      subst hvv
      have HV := Lib.hid hv
      obtain ⟨⟨b1, b2⟩, b3, b4⟩ := HGD.out k _ hv
      dsimp only at b1 b2 b3 b4
      have HST := Lib.hid (HPH.out.step HRG.out.owns.isMap hk hv hlx)
      have c1 : w1.cell? ⟨t, 0, none⟩ = some (.map (some b)) := blk_cell HTB1.out 0
      clear hen hrg1 hlt hlx hg1 hs1 ek hat hk hv HOW HGW HTB HSZ c0
      by_cases hz : vq = 0
      · subst hz
        have hen2 := HEN.out
        have HGP : Hid (goneP p (va, 0) = false) := Lib.hid (by simp [goneP])
        have HSV : Hid (stepV p (va, 0) = (min (va + 1) 1073741824, min 1 1073741824)) := Lib.hid (by unfold stepV; rw [HGP.out]; rfl)
        go_wp2
        clear hen2
        generalize min (va + 1) 1073741824 = sa at HSV ⊢
        generalize (min 1 1073741824 : Int) = sq at HSV ⊢
        have HB1 : Hid (Below w1.heap.size w1 (w1.alloc (.cells #[.int .i64 sa, .int .i64 sq] 120 (0, 0)))) := Lib.hid (below_alloc (Below.refl _ _) _)
        have HQ1 : Hid ((w1.alloc (.cells #[.int .i64 sa, .int .i64 sq] 120 (0, 0))).heap[w1.heap.size]? = some (.cells #[.int .i64 sa, .int .i64 sq] 120 (0, 0))) := Lib.hid (blk_new w1 _)
        generalize w1.alloc (.cells #[.int .i64 sa, .int .i64 sq] 120 (0, 0)) = W at HB1 HQ1 ⊢
        have HB2 := Lib.hid (HB1.out.trans (pw_below_drewN (Below.refl _ W) 1))
        have HQ2 : Hid (W.drew.heap[w1.heap.size]? = some (.cells #[.int .i64 sa, .int .i64 sq] 120 (0, 0))) := Lib.hid HQ1.out
        have HTB2 : Hid (W.drew.heap[t]? = some (.cells #[.map (some b)] 114 (0, 0))) := Lib.hid ((HB2.out.block t (blk_lt HTB1.out)).trans HTB1.out)
        have HRG2 := Lib.hid (HRG1.out.kept (grown_of_below HB2.out none) (by simp) (by simp))
        have HOW2 := Lib.hid (pw_own_below HOW1.out HB2.out)
        have HG2 : Hid (w.grownBy W.drew (some b)) := Lib.hid (HG1.out.andThen (grown_of_below HB2.out none) (fun j e => by cases e))
        have HSZ2 : Hid (r + 1 ≤ W.drew.heap.size) := Lib.hid (Nat.le_trans HSZ1.out HB2.out.size)
        have HQN : Hid (r + 1 ≤ w1.heap.size) := HSZ1
        generalize w1.heap.size = q at HQ1 HQ2 HQN HB1 HB2 ⊢
        clear HB1 HQ1 HB2 HRG1 HTB1 HOW1 HG1 HSZ1 c1
        obtain ⟨w3, hrun, hrg3, hmt⟩ := ranges_put HRG2.out law3 Tryz.underlying112 (keyOf_int_mk Tryz.underlying3 (wf_who (k := (k : Int)) (by have := HK.out; omega))) (by simp [same_ky]) (by have := HPH.out.has k HK.out; rw [HV.out] at this; exact this) (nearE_mk (sa, sq))
        have HRUN := Lib.hid hrun
        have HR3 := Lib.hid hrg3
        have HM3 := Lib.hid hmt.grown
        clear hrun hrg3 hmt
        refine rl_start (fun W' => W'.cell? ⟨t, 0, none⟩ = some (.map (some b)) ∧ W'.heap[q]? = some (.cells #[.int .i64 sa, .int .i64 sq] 120 (0, 0))) 7 (by kernel_rfl) rfl ⟨blk_cell HTB2.out 0, HQ2.out⟩ (fun HS => ?_)
        repeat (first
          | ((with_reducible refine rlg_load (ty := 112) rfl ?_); refine rl_cell (ad := ⟨t, 0, none⟩) (v := .map (some b)) rfl (by kernel_rfl) (fun _ _ _ h => h) (by rfl) HS (by rfl) Tryz.underlying112 rfl (fun W hW => hW.1) ?_; (try simp only [Act.put, List.setIfInBounds_toArray, List.set_cons_zero, List.set_cons_succ, Nat.reduceAdd]))
          | ((with_reducible refine rlg_load (ty := 120) rfl ?_); refine rl_cells (ad := ⟨q, 0, none⟩) (cs := [.int .i64 sa, .int .i64 sq]) rfl (by kernel_rfl) (fun _ _ _ h => h) (by rfl) HS (by rfl) Tryz.underlying120 rfl (by kernel_rfl) (fun W hW j u hu => by rw [add_plain, blk_cell hW.2]; simpa using hu) ?_; (try simp only [Act.put, List.setIfInBounds_toArray, List.set_cons_zero, List.set_cons_succ, Nat.reduceAdd]))
          | (refine rl_map (b := b) (key := .int .i64 k) (val := .agg #[.int .i64 sa, .int .i64 sq]) rfl (by kernel_rfl) (by rfl) (by rfl) (by rfl) (by rfl) HRUN.out ⟨blk_cell ((HM3.out.block t (blk_lt HTB2.out) (fun e => HT.out.ne (Option.some.inj e))).trans HTB2.out) 0, (HM3.out.block q (blk_lt HQ2.out) (fun e => by have := HRT.out.2; have := HQN.out; have := Option.some.inj e; omega)).trans HQ2.out⟩ (fun _ => ?_); (try simp only [Act.put, List.setIfInBounds_toArray, List.set_cons_zero, List.set_cons_succ, Nat.reduceAdd]))
          | (refine rl_pureK (by kernel_rfl) (fun _ _ _ h => h) (by rfl) (fun W K hK => by go_simp; exact hK.out) ?_; (try simp only [Act.put, List.setIfInBounds_toArray, List.set_cons_zero, List.set_cons_succ, Nat.reduceAdd])))
        refine rl_done (by kernel_rfl) ?_
        go_wp2
        go_roundw
        case rel =>
          refine ⟨_, cnt1, _, gl, u, rfl, HR3, Lib.hid ?_, Lib.hid (own_other HOW2.out HM3.out ?_), Lib.hid (HG2.out.andThen HM3.out (fun j e => .inr e)), Lib.hid ((HM3.out.block t (blk_lt HTB2.out) (fun e => HT.out.ne (Option.some.inj e))).trans HTB2.out), Lib.hid (Nat.le_trans HSZ2.out HM3.out.size)⟩
          · have := HST.out
            rw [HSV.out, HGP.out] at this
            simpa using this
          · rcases HOW2.out.2 with ⟨e, _⟩ | ⟨g, cap, cur, e, h1, _⟩
            · exact .inl (by rw [e]; rfl)
            · refine .inr (fun e2 => ?_)
              rw [e] at e2
              have : g = b := Option.some.inj e2
              have := HRT.out.2
              omega
        case measure =>
          have h1 := HR3.out.left_eq
          have h2 := HRG.out.left_eq
          have h3 := HLT.out
          omega
      · by_cases hp : p < vq
        · have d1 : decide (0 < vq) = true := decide_eq_true (by omega)
          have d2 : decide (p < vq) = true := decide_eq_true hp
          have hen2 := HEN.out
          have HGP : Hid (goneP p (va, vq) = true) := Lib.hid (by unfold goneP; dsimp only; rw [d1, d2]; rfl)
          have HSV : Hid (stepV p (va, vq) = (va, min (vq + 1) 1073741824)) := Lib.hid (by unfold stepV; rw [HGP.out]; dsimp only; rw [if_pos rfl])
          have HB1 : Hid (Below w1.heap.size w1 (w1.alloc (.cells #[.int .i64 va, .int .i64 vq] 120 (0, 0)))) := Lib.hid (below_alloc (Below.refl _ _) _)
          have HOWN := Lib.hid (pw_own_below HOW1.out HB1.out)
          have HGL : Hid (gl.length ≤ 48) := Lib.hid HPH.out.len
          have hgl := HGL.out
          clear hz hp
          go_wp2_with (at_builtin; (refine print_append_cells (w0 := w1.alloc (.cells #[.int .i64 va, .int .i64 vq] 120 (0, 0))) (r + 1) rfl _ _ 56 3 (.int .i64 0) 1 8 rfl Tryz.underlying56 info3 rfl (by decide) (by decide) u gl.length (gl.map (Value.int .i64)) [.int .i64 k] rfl (by rw [show (w1.alloc (.cells #[.int .i64 va, .int .i64 vq] 120 (0, 0))).heap.size = w1.heap.size + 1 by simp]; rfl) rfl (by simp [Value.oneCell']) HOWN.out (Below.refl _ _) (Nat.le_trans HSZ1.out HB1.out.size) (by omega) ?_); intro u4 w4 ho4 hb4 hg4 _; have HO4 := Lib.hid ho4; have HB4 := Lib.hid hb4; have HG4 := Lib.hid hg4; have HN4 : Hid (w4.heap[w1.heap.size]? = some (.cells #[.int .i64 va, .int .i64 vq] 120 (0, 0))) := Lib.hid (n_kept HOW1.out HG4.out); have n0 := blk_cell HN4.out 0; have n1 := blk_cell HN4.out 1; have n2 := blk_frozen HN4.out 1; clear ho4 hb4 hg4)
          clear hen2
          generalize min (vq + 1) 1073741824 = sq at HSV ⊢
          have HALL := Lib.hid (gone_end (sq := sq) HRE.out HRT.out HSZ1.out HG1.out HTB1.out HRG1.out HOW1.out HO4.out HB4.out HG4.out)
          have HQN : Hid (r + 1 ≤ w1.heap.size) := HSZ1
          generalize w4.setCell ⟨w1.heap.size, 1, none⟩ (.int .i64 sq) = W at HALL ⊢
          have HQ2 := Lib.hid HALL.out.1
          have HTB2 := Lib.hid HALL.out.2.1
          have HRG2 := Lib.hid HALL.out.2.2.1
          have HOW2 : Hid (W.drew.ownsRow (r + 1) 3 1 u4 (gl ++ [(k : Int)]).length ((gl ++ [(k : Int)]).map (Value.int .i64))) := Lib.hid (by rw [List.length_append, List.map_append]; exact HALL.out.2.2.2.1)
          have HG2 := Lib.hid HALL.out.2.2.2.2.1
          have HSZ2 := Lib.hid HALL.out.2.2.2.2.2
          clear HALL n0 n1 n2 HN4
          generalize w1.heap.size = q at HQ2 HQN ⊢
          clear HO4 HB4 HG4 HRG1 HTB1 HOW1 HG1 HSZ1 c1
          obtain ⟨w3, hrun, hrg3, hmt⟩ := ranges_put HRG2.out law3 Tryz.underlying112 (keyOf_int_mk Tryz.underlying3 (wf_who (k := (k : Int)) (by have := HK.out; omega))) (by simp [same_ky]) (by have := HPH.out.has k HK.out; rw [HV.out] at this; exact this) (nearE_mk (va, sq))
          have HRUN := Lib.hid hrun
          have HR3 := Lib.hid hrg3
          have HM3 := Lib.hid hmt.grown
          clear hrun hrg3 hmt
          refine rl_start (fun W' => W'.cell? ⟨t, 0, none⟩ = some (.map (some b)) ∧ W'.heap[q]? = some (.cells #[.int .i64 va, .int .i64 sq] 120 (0, 0))) 7 (by kernel_rfl) rfl ⟨blk_cell HTB2.out 0, HQ2.out⟩ (fun HS => ?_)
          repeat (first
            | ((with_reducible refine rlg_load (ty := 112) rfl ?_); refine rl_cell (ad := ⟨t, 0, none⟩) (v := .map (some b)) rfl (by kernel_rfl) (fun _ _ _ h => h) (by rfl) HS (by rfl) Tryz.underlying112 rfl (fun W hW => hW.1) ?_; (try simp only [Act.put, List.setIfInBounds_toArray, List.set_cons_zero, List.set_cons_succ, Nat.reduceAdd]))
            | ((with_reducible refine rlg_load (ty := 120) rfl ?_); refine rl_cells (ad := ⟨q, 0, none⟩) (cs := [.int .i64 va, .int .i64 sq]) rfl (by kernel_rfl) (fun _ _ _ h => h) (by rfl) HS (by rfl) Tryz.underlying120 rfl (by kernel_rfl) (fun W hW j u hu => by rw [add_plain, blk_cell hW.2]; simpa using hu) ?_; (try simp only [Act.put, List.setIfInBounds_toArray, List.set_cons_zero, List.set_cons_succ, Nat.reduceAdd]))
            | (refine rl_map (b := b) (key := .int .i64 k) (val := .agg #[.int .i64 va, .int .i64 sq]) rfl (by kernel_rfl) (by rfl) (by rfl) (by rfl) (by rfl) HRUN.out ⟨blk_cell ((HM3.out.block t (blk_lt HTB2.out) (fun e => HT.out.ne (Option.some.inj e))).trans HTB2.out) 0, (HM3.out.block q (blk_lt HQ2.out) (fun e => by have := HRT.out.2; have := HQN.out; have := Option.some.inj e; omega)).trans HQ2.out⟩ (fun _ => ?_); (try simp only [Act.put, List.setIfInBounds_toArray, List.set_cons_zero, List.set_cons_succ, Nat.reduceAdd]))
            | (refine rl_pureK (by kernel_rfl) (fun _ _ _ h => h) (by rfl) (fun W K hK => by go_simp; exact hK.out) ?_; (try simp only [Act.put, List.setIfInBounds_toArray, List.set_cons_zero, List.set_cons_succ, Nat.reduceAdd])))
          refine rl_done (by kernel_rfl) ?_
          go_wp2
          go_roundw
          case rel =>
            refine ⟨_, cnt1, _, gl ++ [(k : Int)], u4, rfl, HR3, Lib.hid ?_, Lib.hid (own_other HOW2.out HM3.out ?_), Lib.hid (HG2.out.andThen HM3.out (fun j e => .inr e)), Lib.hid ((HM3.out.block t (blk_lt HTB2.out) (fun e => HT.out.ne (Option.some.inj e))).trans HTB2.out), Lib.hid (Nat.le_trans HSZ2.out HM3.out.size)⟩
            · have := HST.out
              rw [HSV.out, HGP.out, if_pos rfl] at this
              exact this
            · rcases HOW2.out.2 with ⟨e, _⟩ | ⟨g, cap, cur, e, h1, _⟩
              · exact .inl (by rw [e]; rfl)
              · refine .inr (fun e2 => ?_)
                rw [e] at e2
                have : g = b := Option.some.inj e2
                have := HRT.out.2
                omega
          case measure =>
            have h1 := HR3.out.left_eq
            have h2 := HRG.out.left_eq
            have h3 := HLT.out
            omega
        · have dz : (vq == 0) = false := beq_eq_false_iff_ne.2 hz
          have d1 : decide (0 < vq) = true := decide_eq_true (by omega)
          have d2 : decide (p < vq) = false := decide_eq_false hp
          have hen2 := HEN.out
          have HGP : Hid (goneP p (va, vq) = false) := Lib.hid (by unfold goneP; dsimp only; rw [d2, Bool.and_false])
          have HSV : Hid (stepV p (va, vq) = (0, min (vq + 1) 1073741824)) := Lib.hid (by unfold stepV; rw [HGP.out]; dsimp only; rw [if_neg (by decide), if_neg hz])
          clear hz hp
          go_wp2
          clear hen2
          generalize min (vq + 1) 1073741824 = sq at HSV ⊢
          have HB1 : Hid (Below w1.heap.size w1 (w1.alloc (.cells #[.int .i64 0, .int .i64 sq] 120 (0, 0)))) := Lib.hid (below_alloc (Below.refl _ _) _)
          have HQ1 : Hid ((w1.alloc (.cells #[.int .i64 0, .int .i64 sq] 120 (0, 0))).heap[w1.heap.size]? = some (.cells #[.int .i64 0, .int .i64 sq] 120 (0, 0))) := Lib.hid (blk_new w1 _)
          generalize w1.alloc (.cells #[.int .i64 0, .int .i64 sq] 120 (0, 0)) = W at HB1 HQ1 ⊢
          have HB2 := Lib.hid (HB1.out.trans (pw_below_drewN (Below.refl _ W) 1))
          have HQ2 : Hid (W.drew.heap[w1.heap.size]? = some (.cells #[.int .i64 0, .int .i64 sq] 120 (0, 0))) := Lib.hid HQ1.out
          have HTB2 : Hid (W.drew.heap[t]? = some (.cells #[.map (some b)] 114 (0, 0))) := Lib.hid ((HB2.out.block t (blk_lt HTB1.out)).trans HTB1.out)
          have HRG2 := Lib.hid (HRG1.out.kept (grown_of_below HB2.out none) (by simp) (by simp))
          have HOW2 := Lib.hid (pw_own_below HOW1.out HB2.out)
          have HG2 : Hid (w.grownBy W.drew (some b)) := Lib.hid (HG1.out.andThen (grown_of_below HB2.out none) (fun j e => by cases e))
          have HSZ2 : Hid (r + 1 ≤ W.drew.heap.size) := Lib.hid (Nat.le_trans HSZ1.out HB2.out.size)
          have HQN : Hid (r + 1 ≤ w1.heap.size) := HSZ1
          generalize w1.heap.size = q at HQ1 HQ2 HQN HB1 HB2 ⊢
          clear HB1 HQ1 HB2 HRG1 HTB1 HOW1 HG1 HSZ1 c1
          obtain ⟨w3, hrun, hrg3, hmt⟩ := ranges_put HRG2.out law3 Tryz.underlying112 (keyOf_int_mk Tryz.underlying3 (wf_who (k := (k : Int)) (by have := HK.out; omega))) (by simp [same_ky]) (by have := HPH.out.has k HK.out; rw [HV.out] at this; exact this) (nearE_mk (0, sq))
          have HRUN := Lib.hid hrun
          have HR3 := Lib.hid hrg3
          have HM3 := Lib.hid hmt.grown
          clear hrun hrg3 hmt
          refine rl_start (fun W' => W'.cell? ⟨t, 0, none⟩ = some (.map (some b)) ∧ W'.heap[q]? = some (.cells #[.int .i64 0, .int .i64 sq] 120 (0, 0))) 7 (by kernel_rfl) rfl ⟨blk_cell HTB2.out 0, HQ2.out⟩ (fun HS => ?_)
          repeat (first
            | ((with_reducible refine rlg_load (ty := 112) rfl ?_); refine rl_cell (ad := ⟨t, 0, none⟩) (v := .map (some b)) rfl (by kernel_rfl) (fun _ _ _ h => h) (by rfl) HS (by rfl) Tryz.underlying112 rfl (fun W hW => hW.1) ?_; (try simp only [Act.put, List.setIfInBounds_toArray, List.set_cons_zero, List.set_cons_succ, Nat.reduceAdd]))
            | ((with_reducible refine rlg_load (ty := 120) rfl ?_); refine rl_cells (ad := ⟨q, 0, none⟩) (cs := [.int .i64 0, .int .i64 sq]) rfl (by kernel_rfl) (fun _ _ _ h => h) (by rfl) HS (by rfl) Tryz.underlying120 rfl (by kernel_rfl) (fun W hW j u hu => by rw [add_plain, blk_cell hW.2]; simpa using hu) ?_; (try simp only [Act.put, List.setIfInBounds_toArray, List.set_cons_zero, List.set_cons_succ, Nat.reduceAdd]))
            | (refine rl_map (b := b) (key := .int .i64 k) (val := .agg #[.int .i64 0, .int .i64 sq]) rfl (by kernel_rfl) (by rfl) (by rfl) (by rfl) (by rfl) HRUN.out ⟨blk_cell ((HM3.out.block t (blk_lt HTB2.out) (fun e => HT.out.ne (Option.some.inj e))).trans HTB2.out) 0, (HM3.out.block q (blk_lt HQ2.out) (fun e => by have := HRT.out.2; have := HQN.out; have := Option.some.inj e; omega)).trans HQ2.out⟩ (fun _ => ?_); (try simp only [Act.put, List.setIfInBounds_toArray, List.set_cons_zero, List.set_cons_succ, Nat.reduceAdd]))
            | (refine rl_pureK (by kernel_rfl) (fun _ _ _ h => h) (by rfl) (fun W K hK => by go_simp; exact hK.out) ?_; (try simp only [Act.put, List.setIfInBounds_toArray, List.set_cons_zero, List.set_cons_succ, Nat.reduceAdd])))
          refine rl_done (by kernel_rfl) ?_
          go_wp2
          go_roundw
          case rel =>
            refine ⟨_, cnt1, _, gl, u, rfl, HR3, Lib.hid ?_, Lib.hid (own_other HOW2.out HM3.out ?_), Lib.hid (HG2.out.andThen HM3.out (fun j e => .inr e)), Lib.hid ((HM3.out.block t (blk_lt HTB2.out) (fun e => HT.out.ne (Option.some.inj e))).trans HTB2.out), Lib.hid (Nat.le_trans HSZ2.out HM3.out.size)⟩
            · have := HST.out
              rw [HSV.out, HGP.out] at this
              simpa using this
            · rcases HOW2.out.2 with ⟨e, _⟩ | ⟨g, cap, cur, e, h1, _⟩
              · exact .inl (by rw [e]; rfl)
              · refine .inr (fun e2 => ?_)
                rw [e] at e2
                have : g = b := Option.some.inj e2
                have := HRT.out.2
                omega
          case measure =>
            have h1 := HR3.out.left_eq
            have h2 := HRG.out.left_eq
            have h3 := HLT.out
            omega
end Go.Proofs.YtdaohldmojpihaaGreatDoor.Mb

namespace Go.Proofs.YtdaohldmojpihaaGreatDoor.G
open Go.RowKit Go.Maps Go.Proofs.YtdaohldmojpihaaGreatDoorW.PrintWords Go.Proofs.YtdaohldmojpihaaGreatDoorW.PrintLast Go.Proofs.YtdaohldmojpihaaGreatDoorW.PrintMore Go.Proofs.YtdaohldmojpihaaGreatDoorPl Go.Proofs.YtdaohldmojpihaaGreatDoorEm Go.Proofs.YtdaohldmojpihaaGreatDoorKr Go.Proofs.YtdaohldmojpihaaGreatDoorRz Go.Proofs.YtdaohldmojpihaaGreatDoor.X
open Go.Proofs.YtdaohldmojpihaaGreatDoor.Mb (Tab FT atF hearF tickF nums GoodF Ab nearE)
set_option linter.unusedVariables false
set_option linter.unusedSimpArgs false
def TabO (b : Nat) (f : FT) (o : Obj) : Prop := ∀ W : World, W.heap[b]? = some o → ∃ D, W.ownsMap Tryz.prog 3 nearE b 48 D ∧ Ab D f
def tabC (b : Nat) : Obj := .cells #[.map (some b)] 114 (0, 0)
theorem Tab.obj {W : World} {t b : Nat} {f : FT} (h : Tab W t b f) : W.heap[t]? = some (tabC b) ∧ ∃ o, W.heap[b]? = some o ∧ TabO b f o ∧ t ≠ b := by
  refine ⟨h.blk, ?_⟩
  have hne := h.ne
  obtain ⟨D, ⟨es, ck, hb, Ft, hs, hD⟩, hab⟩ := h.map
  exact ⟨_, hb, fun W' hW => ⟨D, ⟨es, ck, hW, Ft, hs, hD⟩, hab⟩, hne⟩
theorem TabO.tab {W : World} {t b : Nat} {f : FT} {o : Obj} (h : TabO b f o) (h1 : W.heap[t]? = some (tabC b)) (h2 : W.heap[b]? = some o) : Tab W t b f := ⟨h1, h W h2⟩
theorem Fr.tab {M A : Nat → Prop} {w W : World} {bl bl1 bl2 : List (Nat × Obj)} {p : World → Prop} {t b : Nat} {f : FT} {o : Obj} (H : Fr M A w W bl p) (hO : TabO b f o) (h1 : At bl t (tabC b) (tabC b) bl1) (h2 : At bl b o o bl2) : Tab W t b f := hO.tab (H.of h1) (H.of h2)
theorem chg_row {w W : World} {b : Nat} (h : w.grownBy W (some b)) : Chg (fun k => k = b) w W := Chg.of_grown h (fun k e _ => (Option.some.inj e).symm)
def ageF (f : FT) (who : Int) : Int := ((atF f who).getD (0, 0)).1
def keepsP (kind frm age : Int) : Bool := ((kind == 1) && decide (frm < 16)) || ((kind == 2) && decide (16 ≤ frm) && decide (0 < age))
def kn1 (me : Int) (a : List Hd × FT) (h : Hd) : List Hd × FT :=
  if a.1.any (fun x => x.frm == h.frm) = true then a else if (h.frm == me) = true then a else
  if ((hearF a.2 h.frm).1 != 0) = true then (a.1, (hearF a.2 h.frm).2) else
  if keepsP h.kind h.frm (ageF a.2 h.frm) = true then (a.1 ++ [h], (hearF a.2 h.frm).2) else (a.1, (hearF a.2 h.frm).2)
def knP (me : Int) (f : FT) (l : List Hd) : List Hd × FT := l.foldl (kn1 me) ([], f)
theorem knP_snoc (me : Int) (f : FT) (l : List Hd) (h : Hd) : knP me f (l ++ [h]) = kn1 me (knP me f l) h := by unfold knP; rw [List.foldl_append]; rfl
theorem kn_cases (me : Int) (out : List Hd) (f f' : FT) (h : Hd) (r : Int) (hr : hearF f h.frm = (r, f')) :
    (out.any (fun x => x.frm == h.frm) = true ∧ kn1 me (out, f) h = (out, f)) ∨
    (out.any (fun x => x.frm == h.frm) = false ∧ (h.frm == me) = true ∧ kn1 me (out, f) h = (out, f)) ∨
    (out.any (fun x => x.frm == h.frm) = false ∧ (h.frm == me) = false ∧ (r != 0) = true ∧ kn1 me (out, f) h = (out, f')) ∨
    (out.any (fun x => x.frm == h.frm) = false ∧ (h.frm == me) = false ∧ (r != 0) = false ∧ (
      ((h.kind == 1) = true ∧ decide (h.frm < 16) = true ∧ kn1 me (out, f) h = (out ++ [h], f')) ∨
      ((h.kind == 1) = true ∧ (h.kind == 2) = false ∧ decide (h.frm < 16) = false ∧ kn1 me (out, f) h = (out, f')) ∨
      ((h.kind == 1) = false ∧ (h.kind == 2) = false ∧ kn1 me (out, f) h = (out, f')) ∨
      ((h.kind == 1) = false ∧ (h.kind == 2) = true ∧ decide (16 ≤ h.frm) = false ∧ kn1 me (out, f) h = (out, f')) ∨
      ((h.kind == 1) = false ∧ (h.kind == 2) = true ∧ decide (16 ≤ h.frm) = true ∧ decide (0 < ageF f h.frm) = false ∧ kn1 me (out, f) h = (out, f')) ∨
      ((h.kind == 1) = false ∧ (h.kind == 2) = true ∧ decide (16 ≤ h.frm) = true ∧ decide (0 < ageF f h.frm) = true ∧ kn1 me (out, f) h = (out ++ [h], f')))) := by
  have h12 : (h.kind == 1) = true → (h.kind == 2) = false := fun e => by
    have : h.kind = 1 := by simpa using e
    rw [this]; rfl
  unfold kn1 keepsP
  dsimp only
  rw [hr]
  dsimp only
  revert h12
  generalize (h.kind == 1) = a
  generalize (h.kind == 2) = b
  generalize decide (h.frm < 16) = c
  generalize decide (16 ≤ h.frm) = d
  generalize decide (0 < ageF f h.frm) = e
  generalize out.any (fun x => x.frm == h.frm) = t
  generalize (h.frm == me) = u
  generalize (r != 0) = v
  intro h12
  cases t <;> cases u <;> cases v <;> cases a <;> cases b <;> cases c <;> cases d <;> cases e <;> simp at h12 ⊢
theorem kn1_len (me : Int) (a : List Hd × FT) (h : Hd) : (kn1 me a h).1.length ≤ a.1.length + 1 := by
  unfold kn1
  split <;> try split <;> try split <;> try split
  all_goals simp
theorem knP_len (me : Int) (f : FT) : ∀ (l : List Hd), (knP me f l).1.length ≤ l.length := by
  suffices h : ∀ (l : List Hd) (a : List Hd × FT), (l.foldl (kn1 me) a).1.length ≤ a.1.length + l.length from fun l => by have := h l ([], f); simpa [knP] using this
  intro l
  induction l with
  | nil => intro a; simp
  | cons x l ih =>
    intro a
    have h1 := ih (kn1 me a x)
    have h2 := kn1_len me a x
    simp only [List.foldl_cons, List.length_cons]
    omega
end Go.Proofs.YtdaohldmojpihaaGreatDoor.G

namespace Go.Proofs.YtdaohldmojpihaaGreatDoor.G
open Go.RowKit Go.Proofs.YtdaohldmojpihaaGreatDoorW.PrintWords Go.Proofs.YtdaohldmojpihaaGreatDoorW.PrintLast Go.Proofs.YtdaohldmojpihaaGreatDoorW.PrintMore Go.Proofs.YtdaohldmojpihaaGreatDoorPl Go.Proofs.YtdaohldmojpihaaGreatDoorEm Go.Proofs.YtdaohldmojpihaaGreatDoorKr Go.Proofs.YtdaohldmojpihaaGreatDoorRz Go.Proofs.YtdaohldmojpihaaGreatDoor.X Go.Proofs.YtdaohldmojpihaaGreatDoorAy
open Go.Proofs.YtdaohldmojpihaaGreatDoor.Mb (Tab FT atF hearF tickF nums GoodF Ab nearE)
set_option linter.unusedVariables false
set_option linter.unusedSimpArgs false
set_option maxRecDepth 100000 in
set_option maxHeartbeats 1000000 in
theorem Known1_calls (x : Hd) (gm : Nat) (mf : Int) (w : World) (h : w.cell? ⟨gm, 1, none⟩ = some (.int .i64 mf)) : Calls Tryz.prog 66 #[.agg (encH x).toArray, .pointer (some ⟨gm, 0, none⟩)] w fun e w' => e = .returned (.bool (x.frm == mf)) ∧ Below w.heap.size w w' := by
  have H := Fr.start0 (M := fun _ => False) (A := fun _ => False) (w := w) (p := fun W => W.cell? ⟨gm, 1, none⟩ = some (.int .i64 mf)) (fun _ h => h.elim) (fun W hW => by
    have hb : Below w.heap.size w { w with heap := W.heap } → True := fun _ => trivial
    have hg := World.block_lt_of_cell? w _ h
    have e := hW gm id hg
    unfold World.cell? at h ⊢
    rw [← h]
    simp only [e])
  obtain ⟨kind, frm, lo, hi, held, hops, good, ref, slo, shi, pulse, st, sn, A, n, c, age⟩ := x
  simp only [encH]
  clear h
  go_enter Tryz.func66, Tryz.ntmps66
  go_wp2_with (first
    | ((with_reducible refine gate_dst (N := 8) rfl ?_); refine load_cell rfl rfl rfl Tryz.underlying3 rfl H.now ?_)
    | ((with_reducible refine gate_dst (N := 2) rfl ?_); refine nB H ?_; clear H; intro g2 w2 H)
    | ((with_reducible refine gL rfl ?_); refine xL H ?_)
    | fail)
  go_ret
  exact ⟨rfl, H.below⟩
set_option maxRecDepth 100000 in
set_option maxHeartbeats 4000000 in
theorem IndexK_calls (A : Option Addr) (c : Nat) (l : List Hd) (gm : Nat) (mf : Int) (w : World) (hr : RowH w A l) (hl : l.length ≤ 9223372036854775807) (hm : w.cell? ⟨gm, 1, none⟩ = some (.int .i64 mf)) :
    Calls Tryz.prog 117 #[.slice A l.length c, .func (.func 66) #[] #[.pointer (some ⟨gm, 0, none⟩)]] w fun e w' => ∃ i : Int, e = .returned (.int .i64 i) ∧ Hid (decide (0 ≤ i) = l.any (fun x => x.frm == mf)) ∧ Hid (Below w.heap.size w w') := by
  have R := Lib.hid hr
  have HM := Lib.hid hm
  obtain ⟨n, hn⟩ : ∃ n, l.length = n := ⟨_, rfl⟩
  have HN := Lib.hid hn
  rw [hn] at hl ⊢
  clear hr hn hm
  go_enter Tryz.func117, Tryz.ntmps117
  go_wp2
  go_loopw [8] (fun v8 wr => ∃ k : Nat, k ≤ n ∧ v8 = .int .i64 k ∧ Hid (∀ x ∈ l.take k, (x.frm == mf) = false) ∧ Hid (Below w.heap.size w wr)) (fun v8 _ => n - (intOf v8).toNat)
  case atStart => exact ⟨0, by omega, rfl, Lib.hid (fun x hx => by simp at hx), Lib.hid (Below.refl _ _)⟩
  case round =>
    obtain ⟨k, hk, rfl, HQ, HB⟩ := hrel
    by_cases hlt : k < n
    · have hkl : k < l.length := by rw [HN.out]; exact hlt
      have hk1 : (k : Int) < (n : Int) := by omega
      have hs1 : -9223372036854775808 ≤ (k : Int) + 1 := by omega
      have hs2 : (k : Int) + 1 ≤ 9223372036854775807 := by omega
      obtain ⟨x, hx⟩ : ∃ x, l[k] = x := ⟨_, rfl⟩
      obtain ⟨ad, e, hc⟩ := (R.out.below HB.out) k hkl
      cases e
      rw [hx] at hc
      have HC := Lib.hid hc
      have HX : Hid (l.take (k + 1) = l.take k ++ [x]) := Lib.hid (by rw [List.take_succ_eq_append_getElem hkl, hx])
      have HME : Hid (x ∈ l) := Lib.hid (hx ▸ List.getElem_mem hkl)
      obtain ⟨b, hb⟩ : ∃ b, (x.frm == mf) = b := ⟨_, rfl⟩
      have HB2 := Lib.hid hb
      have HD : Hid (∀ W, Below w.heap.size w W → Calls Tryz.prog 66 #[.agg (encH x).toArray, .pointer (some ⟨gm, 0, none⟩)] W fun e w' => e = .returned (.bool b) ∧ Below W.heap.size W w') := Lib.hid (fun W h => hb ▸ Known1_calls x gm mf W (pw_cell_below h HM.out))
      have HLE : Hid ((encH x).length = 15) := Lib.hid rfl
      generalize encH x = cs at HC HD HLE
      clear hx hb hc
      cases b with
      | false =>
        go_wp2_with (first
          | ((with_reducible refine gate_dst (N := 15) rfl ?_); refine load_cells rfl rfl (ad := ad.add (k * 15)) (cs := cs) ?hx Tryz.underlying45 rfl (by rw [HLE.out]; kernel_rfl) HC.out ?_; (case hx => first | rfl | (go_simp; done) | (go_simp; rfl))))
        refine (HD.out _ HB.out).mono ?_
        rintro e w' ⟨rfl, hb⟩
        go_wp2
        go_roundw
        case rel => exact ⟨k + 1, by omega, by simp, Lib.hid (fun y hy => by
          rw [HX.out] at hy
          rcases List.mem_append.1 hy with hy | hy
          · exact HQ.out y hy
          · rw [List.mem_singleton.1 hy]; exact HB2.out), Lib.hid (HB.out.trans (hb.mono HB.out.size))⟩
        case measure => simp [intOf]; omega
      | true =>
        go_wp2_with (first
          | ((with_reducible refine gate_dst (N := 15) rfl ?_); refine load_cells rfl rfl (ad := ad.add (k * 15)) (cs := cs) ?hx Tryz.underlying45 rfl (by rw [HLE.out]; kernel_rfl) HC.out ?_; (case hx => first | rfl | (go_simp; done) | (go_simp; rfl))))
        refine (HD.out _ HB.out).mono ?_
        rintro e w' ⟨rfl, hb⟩
        go_wp2
        go_ret
        refine ⟨_, rfl, Lib.hid ?_, Lib.hid (HB.out.trans (hb.mono HB.out.size))⟩
        rw [List.any_eq_true.2 ⟨x, HME.out, HB2.out⟩]
        exact decide_eq_true (Int.natCast_nonneg k)
    · obtain rfl : k = n := by omega
      go_wp2
      go_ret
      refine ⟨_, rfl, Lib.hid ?_, HB⟩
      have : l.any (fun x => x.frm == mf) = false := List.any_eq_false.2 (fun x hx => by rw [HQ.out x (by rw [List.take_of_length_le (by rw [HN.out]; exact Nat.le_refl _)]; exact hx)]; simp)
      rw [this]
      rfl
set_option maxRecDepth 100000 in
set_option maxHeartbeats 4000000 in
theorem ContainsK_calls (A : Option Addr) (c : Nat) (l : List Hd) (gm : Nat) (mf : Int) (w : World) (hr : RowH w A l) (hl : l.length ≤ 9223372036854775807) (hm : w.cell? ⟨gm, 1, none⟩ = some (.int .i64 mf)) :
    Calls Tryz.prog 65 #[.slice A l.length c, .func (.func 66) #[] #[.pointer (some ⟨gm, 0, none⟩)]] w fun e w' => e = .returned (.bool (l.any (fun x => x.frm == mf))) ∧ Below w.heap.size w w' := by
  have HI := Lib.hid (IndexK_calls A c l gm mf w hr hl hm)
  obtain ⟨n, hn⟩ : ∃ n, l.length = n := ⟨_, rfl⟩
  obtain ⟨b, hb⟩ : ∃ b, l.any (fun x => x.frm == mf) = b := ⟨_, rfl⟩
  rw [hn, hb] at HI
  rw [hn, hb]
  clear hr hl hm hn hb
  go_enter Tryz.func65, Tryz.ntmps65
  go_wp2_with (go_at_call 117; refine HI.out.mono ?_; rintro e w1 ⟨i, rfl, H1, HB⟩)
  go_ret
  exact ⟨by rw [← H1.out]; first | done | rfl, HB.out⟩
def ndM (b t g : Nat) (k : Nat) : Prop := k = b ∨ k = t ∨ k = g
theorem Fr.less1 {A : Nat → Prop} {w W : World} {bl : List (Nat × Obj)} {p : World → Prop} {b t g : Nat} (H : Fr (ndM b t g) A w W bl p) (h1 : W.heap[t]? = w.heap[t]?) (h2 : W.heap[g]? = w.heap[g]?) : Chg (fun k => k = b) w W :=
  ⟨H.chg.os, H.chg.tape, H.chg.output, H.chg.size, fun k hk hn => by
    by_cases e : k = t
    · rw [e, h1]
    · by_cases e2 : k = g
      · rw [e2, h2]
      · exact H.chg.block k hk (fun q => q.elim hn (fun q => q.elim e e2))⟩
theorem nd_start {w : World} {b t g : Nat} {f : FT} {cs : Array Value} {p : World → Prop} (hT : Tab w t b f) (hg : w.heap[g]? = some (.cells cs 53 (0, 0))) (hp : Tr (ndM b t g) w p) :
    ∃ o, TabO b f o ∧ Fr (ndM b t g) (ndM b t g) w w [(b, o), (t, tabC b), (g, .cells cs 53 (0, 0))] p := by
  obtain ⟨h1, o, h2, hO, hne⟩ := Tab.obj hT
  have e1 : t ≠ g := fun e => by
    rw [e, hg] at h1
    injection h1 with h1
    injection h1 with _ h1
    revert h1
    decide
  have e2 : b ≠ g := fun e => by
    obtain ⟨D, ⟨es, ck, hb, _⟩, _⟩ := hO w h2
    rw [e, hg] at hb
    cases hb
  refine ⟨o, hO, Fr.start (fun k hk => ?_) (fun x hx => ?_) ?_ (Tr.less hp (fun k _ hk => ?_))⟩
  · rcases hk with rfl | rfl | rfl
    · exact Go.Proofs.YtdaohldmojpihaaGreatDoorEm.obj_lt h2
    · exact Go.Proofs.YtdaohldmojpihaaGreatDoorEm.obj_lt h1
    · exact Go.Proofs.YtdaohldmojpihaaGreatDoorEm.obj_lt hg
  · simp only [List.mem_cons, List.not_mem_nil, or_false] at hx
    rcases hx with rfl | rfl | rfl
    · exact ⟨h2, .inl rfl⟩
    · exact ⟨h1, .inr (.inl rfl)⟩
    · exact ⟨hg, .inr (.inr rfl)⟩
  · refine List.Pairwise.cons (fun x hx => ?_) (List.Pairwise.cons (fun x hx => ?_) (List.Pairwise.cons (fun x hx => by cases hx) List.Pairwise.nil))
    · simp only [List.mem_cons, List.not_mem_nil, or_false] at hx
      rcases hx with rfl | rfl
      · exact hne.symm
      · exact e2
    · simp only [List.mem_cons, List.not_mem_nil, or_false] at hx
      rw [hx]
      exact e1
  · rcases hk with hk | ⟨x, hx, e⟩
    · exact hk
    · simp only [List.mem_cons, List.not_mem_nil, or_false] at hx
      rcases hx with rfl | rfl | rfl
      · exact .inl e.symm
      · exact .inr (.inl e.symm)
      · exact .inr (.inr e.symm)
theorem nd_lt {w W : World} {b t g : Nat} {o o2 o3 : Obj} {p : World → Prop} (H : Fr (ndM b t g) (ndM b t g) w W [(b, o), (t, o2), (g, o3)] p) {k : Nat} (hk : ndM b t g k ∨ Of [(b, o), (t, o2), (g, o3)] k) : k < w.heap.size := by
  refine H.av k (hk.elim id (fun ⟨x, hx, e⟩ => ?_))
  simp only [List.mem_cons, List.not_mem_nil, or_false] at hx
  rcases hx with rfl | rfl | rfl
  · exact .inl e.symm
  · exact .inr (.inl e.symm)
  · exact .inr (.inr e.symm)
theorem nd_own {w W : World} {b t g : Nat} {o o2 o3 : Obj} {p : World → Prop} {e : TypeId} {sz n c : Nat} {A : Option Addr} {xs : List Value} (H : Fr (ndM b t g) (ndM b t g) w W [(b, o), (t, o2), (g, o3)] p) (h : W.ownsRow w.heap.size e sz (.slice A n c) n xs) : Fr (ndM b t g) (ndM b t g) w W [(b, o), (t, o2), (g, o3)] (fun W => p W ∧ W.ownsRow w.heap.size e sz (.slice A n c) n xs) :=
  H.and (Tr_own h (Nat.le_refl _) (fun k1 a1 h1 h2 => by
    have := (own_lo h a1 h2).1
    have := nd_lt H h1
    omega))
set_option maxRecDepth 100000 in
set_option maxHeartbeats 16000000 in
theorem known_calls (p : Par) (me : Int) (s : St) (A : Option Addr) (c g t b : Nat) (f : FT) (Al : Option Addr) (cl : Nat) (l : List Hd) (w : World) (hg : w.heap[g]? = some (.cells #[.int .i64 p.N, .int .i64 p.F, .int .i64 p.D, .int .i64 p.Be, .int .i64 p.Rho, .int .i64 p.De, .int .i64 p.Ji, .int .i64 p.Eps, .int .i64 p.Mu, .int .i64 p.Ho, .int .i64 p.Pu, .int .i64 p.Se, .int .i64 s.lo, .int .i64 s.hi, .int .i64 s.time, .bool s.set, .int .i64 s.held, .int .i64 s.hops, .bool s.good, .slice A s.tab.length c, .int .i64 s.st, .int .i64 s.sn, .int .i64 s.life, .int .i64 me, .pointer (some ⟨t, 0, none⟩)] 53 (0, 0))) (hT : Tab w t b f) (hr : Tr (ndM b t g) w (fun W => RowH W Al l)) (hl : l.length ≤ 4096) (hwf : ∀ h ∈ l, -9223372036854775808 ≤ h.frm ∧ h.frm ≤ 9223372036854775807) :
    Calls Tryz.prog 30 #[.pointer (some ⟨g, 0, none⟩), .slice Al l.length cl] w fun e w' => ∃ Ao co, e = .returned (.slice Ao (knP me f l).1.length co) ∧ w'.ownsRow w.heap.size 45 15 (.slice Ao (knP me f l).1.length co) (knP me f l).1.length (flH (knP me f l).1) ∧ Tab w' t b (knP me f l).2 ∧ Chg (fun k => k = b) w w' := by
  obtain ⟨ob, hOb, H⟩ := nd_start hT hg hr
  have HR0 := Lib.hid hr
  have HG := Lib.hid hg
  have HT0 := Lib.hid hT.blk
  have HWF := Lib.hid hwf
  have HTOB := Lib.hid hOb
  obtain ⟨n, hn⟩ : ∃ n, l.length = n := ⟨_, rfl⟩
  have HN := Lib.hid hn
  rw [hn] at hl ⊢
  obtain ⟨i0, hi0, hz0, hz1, hz2⟩ := info_parts infoH
  clear hr hn hg hT hwf hOb
  go_enter Tryz.func30, Tryz.ntmps30
  go_wp2_with (first
    | fail)
  go_loopw [5, 14] (fun v5 v14 wr => ∃ (k : Nat) (out : List Hd) (f2 : FT) (o : Obj) (Ao : Option Addr) (on co : Nat), k ≤ n ∧ v14 = .int .i64 k ∧ v5 = .slice Ao on co ∧ on ≤ co ∧ on ≤ k ∧ Hid (out.length = on) ∧ Hid (knP me f (l.take k) = (out, f2)) ∧ Hid (TabO b f2 o) ∧ Hid (wr.ownsRow w.heap.size 45 15 (.slice Ao on co) on (flH out)) ∧ Fr (ndM b t g) (ndM b t g) w wr [(b, o), (t, tabC b), (g, .cells #[.int .i64 p.N, .int .i64 p.F, .int .i64 p.D, .int .i64 p.Be, .int .i64 p.Rho, .int .i64 p.De, .int .i64 p.Ji, .int .i64 p.Eps, .int .i64 p.Mu, .int .i64 p.Ho, .int .i64 p.Pu, .int .i64 p.Se, .int .i64 s.lo, .int .i64 s.hi, .int .i64 s.time, .bool s.set, .int .i64 s.held, .int .i64 s.hops, .bool s.good, .slice A s.tab.length c, .int .i64 s.st, .int .i64 s.sn, .int .i64 s.life, .int .i64 me, .pointer (some ⟨t, 0, none⟩)] 53 (0, 0))] (fun W => RowH W Al l)) (fun _ v14 _ => n - (intOf v14).toNat)
  case atStart => exact ⟨0, [], f, ob, none, 0, 0, by omega, rfl, rfl, by omega, by omega, Lib.hid rfl, Lib.hid rfl, HTOB, Lib.hid (World.ownsRow_nil _ _ _ _), H⟩
  case round =>
    clear H
    obtain ⟨k, out, f2, o, Ao, on, co, hk, rfl, rfl, hco, hok, HON, HF, HTO, HO, H⟩ := hrel
    by_cases hlt : k < n
    · have hkl : k < l.length := by rw [HN.out]; exact hlt
      have hk1 : (k : Int) < (n : Int) := by omega
      have hs1 : -9223372036854775808 ≤ (k : Int) + 1 := by omega
      have hs2 : (k : Int) + 1 ≤ 9223372036854775807 := by omega
      obtain ⟨ad, e, hx⟩ := H.now k hkl
      cases e
      obtain ⟨x, hxe⟩ : ∃ x, l[k] = x := ⟨_, rfl⟩
      rw [hxe] at hx
      have HT : Hid (knP me f (l.take (k + 1)) = kn1 me (out, f2) x) := Lib.hid (by rw [List.take_succ_eq_append_getElem hkl, hxe, knP_snoc, HF.out])
      obtain ⟨⟨r, f3⟩, hrf⟩ : ∃ y, hearF f2 x.frm = y := ⟨_, rfl⟩
      have hcs := kn_cases me out f2 f3 x r hrf
      obtain ⟨ag, hag⟩ : ∃ a, ageF f2 x.frm = a := ⟨_, rfl⟩
      obtain ⟨bi, hbi⟩ : ∃ a, (atF f2 x.frm).isSome = a := ⟨_, rfl⟩
      have KAge : Hid (∀ W, Tab W t b f2 → Calls Tryz.prog 67 #[.pointer (some ⟨t, 0, none⟩), .int .i64 x.frm] W fun e w' => e = .returned (.tuple #[.int .i64 ag, .bool bi]) ∧ Below W.heap.size W w') := Lib.hid (fun W h => by
        rw [← hag, ← hbi]
        exact (Mb.Age_calls W t b f2 h x.frm (HWF.out x (hxe ▸ List.getElem_mem hkl))).mono (fun e w' h => ⟨h.1, h.2.out⟩))
      have KHear : Hid (∀ W, Tab W t b f2 → Calls Tryz.prog 68 #[.pointer (some ⟨t, 0, none⟩), .int .i64 x.frm] W fun e w' => e = .returned (.int .i64 r) ∧ Hid (Tab w' t b f3) ∧ Hid (W.grownBy w' (some b))) := Lib.hid (fun W h => Mb.Hear_calls W t b f2 h x.frm r f3 hrf)
      obtain ⟨tw, htw⟩ : ∃ y, out.any (fun y => y.frm == x.frm) = y := ⟨_, rfl⟩
      have HCN : Hid (∀ W gm, W.cell? ⟨gm, 1, none⟩ = some (.int .i64 x.frm) → RowH W Ao out → Calls Tryz.prog 65 #[.slice Ao on co, .func (.func 66) #[] #[.pointer (some ⟨gm, 0, none⟩)]] W fun e w' => e = .returned (.bool tw) ∧ Below W.heap.size W w') := Lib.hid (fun W gm h h2 => by
        have := ContainsK_calls Ao co out gm x.frm W h2 (by rw [HON.out]; omega) h
        rw [htw, HON.out] at this
        exact this)
      rw [hag, htw] at hcs
      obtain ⟨kind, frm, lo, hi, held, hops, good, ref, slo, shi, pulse, st, sn, Ax, nx, cx, age⟩ := x
      have HC : Hid (∀ j u, [Value.int .i64 kind, .int .i64 frm, .int .i64 lo, .int .i64 hi, .int .i64 held, .int .i64 hops, .bool good, .bool ref, .int .i64 slo, .int .i64 shi, .int .i64 pulse, .int .i64 st, .int .i64 sn, .slice Ax nx cx, .int .i64 age][j]? = some u → wr.cell? ((ad.add (k * 15)).add j) = some u) := Lib.hid hx
      have H1 := nd_own H HO.out
      replace H := H1
      clear H1 HO hx hxe hrf hag hbi htw
      dsimp only at hcs HCN KAge KHear
      go_upto_region 7 with (first
        | ((with_reducible refine gate_dst (N := 17) rfl ?_); refine load_cells rfl rfl (ad := ad.add (k * 15)) (cs := [.int .i64 kind, .int .i64 frm, .int .i64 lo, .int .i64 hi, .int .i64 held, .int .i64 hops, .bool good, .bool ref, .int .i64 slo, .int .i64 shi, .int .i64 pulse, .int .i64 st, .int .i64 sn, .slice Ax nx cx, .int .i64 age]) ?hx Tryz.underlying45 rfl (by kernel_rfl) HC.out ?_; (case hx => first | rfl | (go_simp; done) | (go_simp; rfl)))
        | ((with_reducible refine gate_dst (N := 7) rfl ?_); refine nA #[.int .i64 0, .int .i64 0, .int .i64 0, .int .i64 0, .int .i64 0, .int .i64 0, .bool false, .bool false, .int .i64 0, .int .i64 0, .int .i64 0, .int .i64 0, .int .i64 0, .slice none 0 0, .int .i64 0] 45 H ?_; clear H; intro g7 w7 H)
        | ((with_reducible refine gate_dst (N := 8) rfl ?_); refine nA #[.int .i64 0, .int .i64 0, .int .i64 0, .int .i64 0, .int .i64 0, .int .i64 0, .bool false, .bool false, .int .i64 0, .int .i64 0, .int .i64 0, .int .i64 0, .int .i64 0, .slice none 0 0] 43 H ?_; clear H; intro g8 w8 H)
        | ((with_reducible refine gS rfl ?_); refine xS H ?_; clear H; intro w_ H)
        | ((with_reducible refine gL rfl ?_); refine xL H ?_)
        | (go_at_call 65; (with_reducible refine (HCN.out _ _ (blk_cell (H.of At.head) 1) (rowH_own H.now.2)).mono ?_); rintro e w' ⟨rfl, hb⟩; have H1 := H.call hb; clear hb; replace H := H1)
        | fail)
      refine ko_region0 H (by kernel_rfl) (by as_aux_lemma => kernel_rfl) (fun HR => ?_)
      repeat ((first
        | ((with_reducible refine kg_call (f := 67) rfl ?_); refine yC 67 Tryz.func67 (fun W hC hd => KAge.out W (HTO.out.tab ((HR W hC).at (n := tabC b) (by repeat (first | exact At.head | apply At.tail))) ((HR W hC).at (n := o) (by repeat (first | exact At.head | apply At.tail))))) ?_)
        | ((with_reducible refine kg_load rfl ?_); refine yL HR ?_)
        | (refine yP ?_)
        | (refine yO ?_)); (try simp only [Act.put, lsA, lsZ, lsS, Nat.reduceAdd]))
      refine ko_end ?_
      intro w1 H1
      clear HR H
      have H := H1
      clear H1
      (try simp only [List.map_cons, List.map_nil, cv, List.cons_append, List.nil_append] at H)
      go_upto_region 8 with fail
      rcases hcs with ⟨rfl, HK⟩ | ⟨rfl, d1, HK⟩ | ⟨rfl, d1, d2, HK⟩ | ⟨rfl, d1, d2, ⟨d3, d4, HK⟩ | ⟨d3, d4, d5, HK⟩ | ⟨d3, d4, HK⟩ | ⟨d3, d4, d5, HK⟩ | ⟨d3, d4, d5, d6, HK⟩ | ⟨d3, d4, d5, d6, HK⟩⟩
      all_goals
        replace HK := Lib.hid HK
        refine ro_start (Frs _ _ _ _ _) [17] [0, 1, 2, 3, 4, 5, 6, 7, 8, 9, 10, 11, 12, 13, 14, 15, 16, 17, 18, 19] 20 (by kernel_rfl) (by rfl) (by simp only [pickR, List.getElem?_cons_succ, List.getElem?_cons_zero]; rfl) (by rfl) (H.drewN 1) (fun HS => ?_)
        have H1 : Fr _ _ _ _ _ _ := HS
        clear HS H
        have H := H1
        clear H1
        repeat ((first
          | ((with_reducible refine rz_call (f := 68) rfl ?_); refine ro_callL 68 _ rfl (by kernel_rfl) (by kernel_rfl) (by rfl) Tryz.func68 (by kernel_rfl) rfl (by simp only [List.map_toArray, List.map_cons, List.map_nil]; rfl) ?_; (refine (KHear.out _ (Fr.tab H HTO.out (by repeat (first | exact At.head | apply At.tail)) (by repeat (first | exact At.head | apply At.tail)))).mono ?_); rintro e w' ⟨rfl, hT2, hg2⟩; obtain ⟨_, o1, hb1, hO1, _⟩ := Tab.obj hT2.out; have H1 := H.turn (by repeat (first | exact At.head | apply At.tail)) hb1 (chg_row hg2.out); have HTO1 := Lib.hid hO1; refine ⟨_, rfl, ?_⟩; clear hT2 hg2 hb1 hO1; replace H := H1; (try simp only [Act.put, lsA, lsZ, lsS, Nat.reduceAdd]))
          | ((with_reducible refine rz_load rfl ?_); refine zL H ?_)
          | (refine zO ?_)
          | (refine zP ?_)); (try simp only [Act.put, lsA, lsZ, lsS, Nat.reduceAdd]))
        refine ro_done (by kernel_rfl) ?_
        go_wp2_with (first
          | ((with_reducible refine gate_dst (N := 77) rfl ?_); refine nR H ?_; clear H; intro x77 w77 H)
          | ((with_reducible refine gL rfl ?_); (try (refine gate_guard (by rfl) ?_; dsimp only)); refine xL H ?_)
          | (at_builtin; refine wpList_append_own_at _ rfl _ _ 32 rfl w.heap.size 45 i0 _ 15 128 Tryz.underlying32 hi0 hz0 hz1 hz2 rfl (by decide) (.slice Ao on co) on (flH out) rfl H.now.2 ⟨x77, 0, none⟩ 1 1 [.int .i64 kind, .int .i64 frm, .int .i64 lo, .int .i64 hi, .int .i64 held, .int .i64 hops, .bool good, .bool ref, .int .i64 slo, .int .i64 shi, .int .i64 pulse, .int .i64 st, .int .i64 sn, .slice Ax nx cx, .int .i64 age] rfl rfl ?hn ?h1 (by unfold maxLen; omega) (by omega) (Nat.le_trans (Nat.le_refl _) H.chg.size) ?_; (case hn => exact new_cells (H.of At.head)); (case h1 => exact encH_one ⟨kind, frm, lo, hi, held, hops, good, ref, slo, shi, pulse, st, sn, Ax, nx, cx, age⟩); intro v2 w2 hown hgrow hnil hat)
          | fail)
      any_goals
        refine ⟨⟨k + 1, out, _, _, Ao, on, co, by omega, rfl, rfl, hco, by omega, HON, Lib.hid (HT.out.trans HK.out), by first | exact HTO1 | exact HTO, Lib.hid H.now.2, (H.drop.drop).imp (fun _ h => h.1)⟩, by simp [intOf]; omega⟩
      all_goals
        have HD := H.drop.drop.drop
        have HA := Fr.appended2 HD (fun k h => h) HR0.out H.now.2 (fun y hy ad e => by have := (own_lo H.now.2 ad e).1; have := nd_lt HD (.inr ⟨y, hy, rfl⟩); omega) hgrow
        rcases hown.2 with ⟨_, h3⟩ | ⟨g4, cap, cur, rfl, h3, h4, h5, h6, h7, h8⟩
        · omega
        · exact ⟨⟨k + 1, _, _, _, some ⟨g4, 0, none⟩, on + 1, cap, by omega, rfl, rfl, h5, by omega, Lib.hid (by rw [List.length_append, HON.out]; rfl), Lib.hid (HT.out.trans HK.out), HTO1, Lib.hid (by rw [flH_snoc]; exact hown), HA⟩, by simp [intOf]; omega⟩
    · obtain rfl : k = n := by omega
      have HFA : Hid (knP me f l = (out, f2)) := Lib.hid (by rw [← HF.out, List.take_of_length_le (by rw [HN.out]; exact Nat.le_refl _)])
      go_wp2
      go_ret
      have e1 := HON.out
      rw [HFA.out]
      dsimp only
      rw [e1]
      exact ⟨Ao, co, rfl, HO.out, HTO.out.tab (H.of (.tail .head)) (H.of .head), Fr.less1 H ((H.of (.tail .head)).trans HT0.out.symm) ((H.of (.tail (.tail .head))).trans HG.out.symm)⟩
end Go.Proofs.YtdaohldmojpihaaGreatDoor.G

namespace Go.Proofs.YtdaohldmojpihaaGreatDoor.G
open Go.RowKit Go.Proofs.YtdaohldmojpihaaGreatDoorW.PrintWords Go.Proofs.YtdaohldmojpihaaGreatDoorW.PrintLast Go.Proofs.YtdaohldmojpihaaGreatDoorW.PrintMore Go.Proofs.YtdaohldmojpihaaGreatDoorPl Go.Proofs.YtdaohldmojpihaaGreatDoorEm Go.Proofs.YtdaohldmojpihaaGreatDoorKr Go.Proofs.YtdaohldmojpihaaGreatDoorRz Go.Proofs.YtdaohldmojpihaaGreatDoor.X Go.Proofs.YtdaohldmojpihaaGreatDoorAy
open Go.Proofs.YtdaohldmojpihaaGreatDoor.Mb (Tab FT atF hearF tickF nums GoodF Ab nearE)
set_option linter.unusedVariables false
set_option linter.unusedSimpArgs false
theorem tab_tr {D : Nat → Prop} {W : World} {t b : Nat} {f : FT} (h : Tab W t b f) (hD : ∀ k, D k → k ≠ t ∧ k ≠ b) : Tr D W (fun W => Tab W t b f) := by
  obtain ⟨h1, o, h2, hO, _⟩ := Tab.obj h
  intro W' hW
  exact hO.tab ((hW t (fun hk => (hD t hk).1 rfl) (Go.Proofs.YtdaohldmojpihaaGreatDoorEm.obj_lt h1)).trans h1) ((hW b (fun hk => (hD b hk).2 rfl) (Go.Proofs.YtdaohldmojpihaaGreatDoorEm.obj_lt h2)).trans h2)
set_option maxRecDepth 100000 in
set_option maxHeartbeats 8000000 in
theorem NNew_calls (p : Par) (me : Int) (s : St) (A : Option Addr) (c : Nat) (w : World) (hr : Kd.C k72 w A s.tab.length s.tab) (hl : s.tab.length ≤ 4096) :
    Calls Tryz.prog 12 #[.agg #[.int .i64 p.N, .int .i64 p.F, .int .i64 p.D, .int .i64 p.Be, .int .i64 p.Rho, .int .i64 p.De, .int .i64 p.Ji, .int .i64 p.Eps, .int .i64 p.Mu, .int .i64 p.Ho, .int .i64 p.Pu, .int .i64 p.Se], .int .i64 me, .agg #[.int .i64 s.lo, .int .i64 s.hi, .int .i64 s.time, .bool s.set, .int .i64 s.held, .int .i64 s.hops, .bool s.good, .slice A s.tab.length c, .int .i64 s.st, .int .i64 s.sn, .int .i64 s.life]] w fun e w' => ∃ g t b A' c', e = .returned (.pointer (some ⟨g, 0, none⟩)) ∧ (w.heap.size ≤ g ∧ w.heap.size ≤ t ∧ w.heap.size ≤ b) ∧ w'.heap[g]? = some (.cells #[.int .i64 p.N, .int .i64 p.F, .int .i64 p.D, .int .i64 p.Be, .int .i64 p.Rho, .int .i64 p.De, .int .i64 p.Ji, .int .i64 p.Eps, .int .i64 p.Mu, .int .i64 p.Ho, .int .i64 p.Pu, .int .i64 p.Se, .int .i64 (saneS p.D s).lo, .int .i64 (saneS p.D s).hi, .int .i64 (saneS p.D s).time, .bool (saneS p.D s).set, .int .i64 (saneS p.D s).held, .int .i64 (saneS p.D s).hops, .bool (saneS p.D s).good, .slice A' (saneS p.D s).tab.length c', .int .i64 (saneS p.D s).st, .int .i64 (saneS p.D s).sn, .int .i64 (saneS p.D s).life, .int .i64 me, .pointer (some ⟨t, 0, none⟩)] 53 (0, 0)) ∧ Tab w' t b (fun _ => none) ∧ w'.ownsRow w.heap.size 72 2 (.slice A' (saneS p.D s).tab.length c') (saneS p.D s).tab.length (flL (saneS p.D s).tab) ∧ Below w.heap.size w w' := by
  have H := Fr.start0 (M := fun _ => False) (A := fun _ => False) (w := w) (p := fun W => Kd.C k72 W A s.tab.length s.tab) (fun _ h => h.elim) (Go.Proofs.YtdaohldmojpihaaGreatDoorEv.Tr.of_C hr k72_heap)
  have HSN := Lib.hid (fun W h => Sane_calls p s A c W h hl)
  obtain ⟨z, hz⟩ : ∃ z, saneS p.D s = z := ⟨_, rfl⟩
  rw [hz] at HSN ⊢
  obtain ⟨lo, hi, time, set, held, hops, good, tab, st, sn, life⟩ := s
  obtain ⟨zlo, zhi, ztime, zset, zheld, zhops, zgood, ztab, zst, zsn, zlife⟩ := z
  obtain ⟨bn, bf, D, be, rho, de, ji, eps, mu, ho, pu, se⟩ := p
  dsimp only at HSN H hl hr ⊢
  obtain ⟨n, hn⟩ : ∃ n, tab.length = n := ⟨_, rfl⟩
  have HN := Lib.hid hn
  rw [hn] at HSN ⊢
  rw [hn] at H
  clear hr hl hn hz
  go_enter Tryz.func12, Tryz.ntmps12
  go_wp2_with (first
    | ((with_reducible refine gate_dst (N := 3) rfl ?_); refine nB H ?_; clear H; intro g3 w3 H)
    | ((with_reducible refine gate_dst (N := 5) rfl ?_); refine nB H ?_; clear H; intro g5 w5 H)
    | fail)
  refine ro_start (Frs _ _ _ _ _) [8] [0, 1, 2, 5, 3, 4, 6, 7, 8, 9] 10 (by kernel_rfl) (by rfl) (by simp only [pickR, List.getElem?_cons_succ, List.getElem?_cons_zero]; rfl) (by rfl) (H.drewN 1) (fun HS => ?_)
  have H1 : Fr _ _ _ _ _ _ := HS
  clear HS H
  have H := H1
  clear H1
  repeat ((first
    | ((with_reducible refine rz_call (f := 15) rfl ?_); refine ro_call 15 _ rfl (by kernel_rfl) (by kernel_rfl) (by rfl) Tryz.func15 (by kernel_rfl) rfl (by simp only [List.map_toArray, List.map_cons, List.map_nil]; rfl) ?_; (refine (HSN.out _ H.now).mono ?_); rintro e w' ⟨A1, c1, rfl, ho, hb⟩; have HT := Tr_row H.avs H.chg.size ho; have H2 := H.call2 hb HT; have H1 := H.call hb; refine ⟨_, rfl, H1, fun _ => ?_⟩; clear hb ho HT H1 H; have H := H2; clear H2; (try simp only [Act.put, lsA, lsZ, lsS, Nat.reduceAdd]))
    | ((with_reducible refine rz_call (f := 29) rfl ?_); refine ro_call 29 _ rfl (by kernel_rfl) (by kernel_rfl) (by rfl) Tryz.func29 (by kernel_rfl) rfl (by simp only [List.map_toArray, List.map_cons, List.map_nil]; rfl) ?_; (refine (Mb.New_calls _).mono ?_); rintro e w' ⟨rfl, hT, hB⟩; have HT := tab_tr (D := fun k => _ ∨ Of _ k) hT.out (fun k hk => by have := H.avs k hk; omega); have H2 := H.call2 hB.out HT; have H1 := (H.imp (fun _ h => h.1)).call hB.out; have HLE := Lib.hid H.chg.size; refine ⟨_, rfl, H1, fun _ => ?_⟩; clear hT hB HT H1 H; have H := H2; clear H2; (try simp only [Act.put, lsA, lsZ, lsS, Nat.reduceAdd]))
    | ((with_reducible refine rz_dst (N := 15) rfl ?_); refine zB H ?_; clear H; intro g15 w1 hg15 H)
    | ((with_reducible refine rz_load rfl ?_); refine zL H ?_)
    | (refine zO ?_)
    | (refine zP ?_)); (try simp only [Act.put, lsA, lsZ, lsS, Nat.reduceAdd]))
  refine ro_done (by kernel_rfl) ?_
  go_wp2
  go_ret
  exact ⟨g15, _, _, A1, c1, rfl, ⟨(H.blk _ List.mem_cons_self).2.resolve_right id, Nat.le_trans HLE.out (Nat.le_succ _), HLE.out⟩, H.of At.head, H.now.2, H.now.1.2, H.below⟩
set_option maxRecDepth 100000 in
set_option maxHeartbeats 4000000 in
theorem NNear_calls (p : Par) (me : Int) (s : St) (A : Option Addr) (c g t b : Nat) (f : FT) (w : World) (hg : w.heap[g]? = some (.cells #[.int .i64 p.N, .int .i64 p.F, .int .i64 p.D, .int .i64 p.Be, .int .i64 p.Rho, .int .i64 p.De, .int .i64 p.Ji, .int .i64 p.Eps, .int .i64 p.Mu, .int .i64 p.Ho, .int .i64 p.Pu, .int .i64 p.Se, .int .i64 s.lo, .int .i64 s.hi, .int .i64 s.time, .bool s.set, .int .i64 s.held, .int .i64 s.hops, .bool s.good, .slice A s.tab.length c, .int .i64 s.st, .int .i64 s.sn, .int .i64 s.life, .int .i64 me, .pointer (some ⟨t, 0, none⟩)] 53 (0, 0))) (hT : Tab w t b f) :
    Calls Tryz.prog 21 #[.pointer (some ⟨g, 0, none⟩)] w fun e w' => ∃ v, e = .returned v ∧ w'.ownsRow w.heap.size 3 1 v (nums f).length ((nums f).map (Value.int .i64)) ∧ Below w.heap.size w w' := by
  have H := Fr.start1 (M := fun k => k = g) (A := fun _ => False) (p := fun _ => True) (fun _ h => h.elim) hg rfl Tr_true
  have KN := Lib.hid (Mb.Near_calls w t b f hT)
  have HW := Lib.hid hg
  clear hg hT
  go_enter Tryz.func21, Tryz.ntmps21
  go_wp2_with (first
    | (go_at_call 60; refine KN.out.mono ?_; rintro e w' ⟨v, rfl, ho, hb⟩; have HO := Lib.hid ho.out; have HB := Lib.hid hb.out; clear ho hb)
    | ((with_reducible refine gL rfl ?_); refine xL H ?_)
    | fail)
  go_ret
  exact ⟨v, rfl, HO.out, HB.out⟩
end Go.Proofs.YtdaohldmojpihaaGreatDoor.G

namespace Go.Proofs
open Go.Shelf
def Tryz.lays169_ren : Go.Shelf.Ren := ⟨fun | 169 => 165 | n => n, fun | 70 => 206 | 9 => 9 | 0 => 0 | 72 => 209 | 37 => 207 | 127 => 227 | 3 => 3 | 5 => 5 | n => n, fun | n => n⟩
theorem Tryz.lays169 : Go.Proofs.Lays.n169 Tryz.prog Tryz.lays169_ren := {
  mixed := by kernel_rfl
  f169 := Tryz.func165.trans (congrArg some (by kernel_rfl))
  t0 := Tryz.underlying0
  a0 := Tryz.isAgg0
  z0 := Tryz.sizeOf0
  v0 := Tryz.zeroValue0
  t3 := Tryz.underlying3
  a3 := Tryz.isAgg3
  z3 := Tryz.sizeOf3
  v3 := Tryz.zeroValue3
  t9 := Tryz.underlying9
  a9 := Tryz.isAgg9
  z9 := Tryz.sizeOf9
  v9 := Tryz.zeroValue9
  t37 := Tryz.underlying207
  a37 := Tryz.isAgg207
  z37 := Tryz.sizeOf207
  v37 := Tryz.zeroValue207
  t70 := Tryz.underlying206
  a70 := Tryz.isAgg206
  z70 := Tryz.sizeOf206
  v70 := Tryz.zeroValue206
  t72 := Tryz.underlying209
  a72 := Tryz.isAgg209
  z72 := Tryz.sizeOf209
  v72 := Tryz.zeroValue209
  t127 := Tryz.underlying227
  a127 := Tryz.isAgg227
  z127 := Tryz.sizeOf227
  v127 := Tryz.zeroValue227 }
theorem Tryz.Builder_Extra_169 : Builder.Extra Tryz.prog Tryz.lays169_ren := {
  sizeBuilder := by kernel_rfl
  liesBuilder := by kernel_rfl
  t5 := Tryz.underlying5
  a5 := Tryz.isAgg5
  z5 := Tryz.sizeOf5
  v5 := Tryz.zeroValue5
  infoByte := by kernel_rfl
  cellsByte := by kernel_rfl
  sizeByte := by kernel_rfl
  neB5 := by decide }
open Go.RowKit in
theorem Tryz.Builder_String_any (B b : Nat) (l : List UInt8) (w : World) (h : Lib.IsBuilder 209 5 B b (Lib.byteCells l) w) (hBw : B ≤ w.heap.size) :
    Calls Tryz.prog 165 #[.pointer (some ⟨b, 0, none⟩)] w fun e w' => e = .returned (.string ⟨l.toArray⟩) ∧ Below B w w' := Any.Builder_String_any Tryz.lays169 Tryz.Builder_Extra_169 B b l w h hBw
def Tryz.laysM171_ren : Go.Shelf.Ren := ⟨fun | 171 => 164 | 243 => 186 | 246 => 193 | 283 => 195 | 284 => 196 | 285 => 197 | 286 => 198 | 129 => 159 | 317 => 199 | 318 => 200 | 319 => 201 | 320 => 202 | 337 => 203 | 338 => 204 | n => n, fun | 3 => 3 | 9 => 9 | 2 => 2 | 4 => 4 | 171 => 233 | 0 => 0 | 53 => 203 | 37 => 207 | 5 => 5 | 173 => 235 | 212 => 238 | 51 => 201 | 20 => 20 | 213 => 239 | 46 => 171 | 232 => 240 | 233 => 241 | n => n, fun | 17 => 0 | 18 => 1 | 19 => 2 | n => n⟩
theorem Tryz.laysM171 : Go.Proofs.LaysM.n171 Tryz.prog Tryz.laysM171_ren := {
  mixed := by kernel_rfl
  f129 := Tryz.func159.trans (congrArg some (by kernel_rfl))
  f171 := Tryz.func164.trans (congrArg some (by kernel_rfl))
  f243 := Tryz.func186.trans (congrArg some (by kernel_rfl))
  f246 := Tryz.func193.trans (congrArg some (by kernel_rfl))
  f283 := Tryz.func195.trans (congrArg some (by kernel_rfl))
  f284 := Tryz.func196.trans (congrArg some (by kernel_rfl))
  f285 := Tryz.func197.trans (congrArg some (by kernel_rfl))
  f286 := Tryz.func198.trans (congrArg some (by kernel_rfl))
  f317 := Tryz.func199.trans (congrArg some (by kernel_rfl))
  f318 := Tryz.func200.trans (congrArg some (by kernel_rfl))
  f319 := Tryz.func201.trans (congrArg some (by kernel_rfl))
  f320 := Tryz.func202.trans (congrArg some (by kernel_rfl))
  f337 := Tryz.func203.trans (congrArg some (by kernel_rfl))
  f338 := Tryz.func204.trans (congrArg some (by kernel_rfl))
  t0 := Tryz.underlying0
  a0 := Tryz.isAgg0
  z0 := Tryz.sizeOf0
  v0 := Tryz.zeroValue0
  t2 := Tryz.underlying2
  a2 := Tryz.isAgg2
  z2 := Tryz.sizeOf2
  v2 := Tryz.zeroValue2
  t3 := Tryz.underlying3
  a3 := Tryz.isAgg3
  z3 := Tryz.sizeOf3
  v3 := Tryz.zeroValue3
  t4 := Tryz.underlying4
  a4 := Tryz.isAgg4
  z4 := Tryz.sizeOf4
  v4 := Tryz.zeroValue4
  t5 := Tryz.underlying5
  a5 := Tryz.isAgg5
  z5 := Tryz.sizeOf5
  v5 := Tryz.zeroValue5
  t9 := Tryz.underlying9
  a9 := Tryz.isAgg9
  z9 := Tryz.sizeOf9
  v9 := Tryz.zeroValue9
  t20 := Tryz.underlying20
  a20 := Tryz.isAgg20
  z20 := Tryz.sizeOf20
  v20 := Tryz.zeroValue20
  t37 := Tryz.underlying207
  a37 := Tryz.isAgg207
  z37 := Tryz.sizeOf207
  v37 := Tryz.zeroValue207
  t46 := Tryz.underlying171
  a46 := Tryz.isAgg171
  z46 := Tryz.sizeOf171
  v46 := Tryz.zeroValue171
  t51 := Tryz.underlying201
  a51 := Tryz.isAgg201
  z51 := Tryz.sizeOf201
  v51 := Tryz.zeroValue201
  t53 := Tryz.underlying203
  a53 := Tryz.isAgg203
  z53 := Tryz.sizeOf203
  v53 := Tryz.zeroValue203
  t171 := Tryz.underlying233
  a171 := Tryz.isAgg233
  z171 := Tryz.sizeOf233
  v171 := Tryz.zeroValue233
  t173 := Tryz.underlying235
  a173 := Tryz.isAgg235
  z173 := Tryz.sizeOf235
  v173 := Tryz.zeroValue235
  t212 := Tryz.underlying238
  a212 := Tryz.isAgg238
  z212 := Tryz.sizeOf238
  v212 := Tryz.zeroValue238
  t213 := Tryz.underlying239
  a213 := Tryz.isAgg239
  z213 := Tryz.sizeOf239
  t232 := Tryz.underlying240
  a232 := Tryz.isAgg240
  z232 := Tryz.sizeOf240
  v232 := Tryz.zeroValue240
  t233 := Tryz.underlying241
  a233 := Tryz.isAgg241
  z233 := Tryz.sizeOf241
  v233 := Tryz.zeroValue241
  g17 := by kernel_rfl
  g18 := by kernel_rfl
  g19 := by kernel_rfl
  i0 := by kernel_rfl
  i2 := by kernel_rfl
  i3 := by kernel_rfl
  i4 := by kernel_rfl
  i5 := by kernel_rfl
  i9 := by kernel_rfl
  i20 := by kernel_rfl
  i37 := by kernel_rfl
  i46 := by kernel_rfl
  i51 := by kernel_rfl
  i53 := by kernel_rfl
  i171 := by kernel_rfl
  i173 := by kernel_rfl
  i212 := by kernel_rfl
  i232 := by kernel_rfl
  i233 := by kernel_rfl
  m17 := by kernel_rfl
  m18 := by kernel_rfl
  m19 := by kernel_rfl }
open Go.RowKit Go.Sort Go.Lib in
theorem Tryz.strconv_Itoa (n : Int) (h0 : -9223372036854775808 ≤ n) (h1 : n ≤ 9223372036854775807) (w : World) (htab : Lib.TabIs Tryz.prog w "internal/strconv.uint64pow10" .u64 Lib.pow10Tab) :
    Calls Tryz.prog 164 #[.int .i64 n] w fun e w' => e = .returned (.string ⟨(Lib.itoa n).toArray⟩) ∧ ∃ k os, w' = grow (w.drewN k) os := Any.strconv_Itoa Tryz.laysM171 n h0 h1 w htab
end Go.Proofs

namespace Go.Proofs.YtdaohldmojpihaaGreatDoor.Vt
open Go.RowKit Go.Proofs.YtdaohldmojpihaaGreatDoorW.PrintWords Go.Proofs.YtdaohldmojpihaaGreatDoorW.PrintLast Go.Proofs.YtdaohldmojpihaaGreatDoorW.PrintMore Go.Proofs.YtdaohldmojpihaaGreatDoorEv
set_option linter.unusedVariables false
set_option linter.unusedSimpArgs false
theorem infoB : (Tryz.prog.info? 209).map (·.size) = some 2 := by kernel_rfl
theorem liesB : liesAt Tryz.prog Tryz.prog.depth 209 (2 / Tryz.prog.cellsOf 209) 0 209 1 = true := by kernel_rfl
theorem info5 : (Tryz.prog.info? 5).map (fun i => (i.zero, i.size, i.bytes)) = some (some (.int .u8 0), 1, 1) := by kernel_rfl
set_option maxHeartbeats 1000000 in
set_option maxRecDepth 100000 in
theorem copyCheck_used (b : Nat) (w : World) (h0 : w.cell? ⟨b, 0, none⟩ = some (.pointer (some ⟨b, 0, none⟩))) :
    Calls Tryz.prog 185 #[.pointer (some ⟨b, 0, none⟩)] w fun e w' => e = .returned (.tuple #[]) ∧ w' = w := by
  obtain ⟨j, hj, hjs⟩ := Option.map_eq_some_iff.1 infoB
  go_enter Tryz.func185, Tryz.ntmps185
  go_wp2
  rw [Lib.run_neq_ptr_same w _ Tryz.underlying206 hj]
  go_wp2
  go_end0
  exact ⟨rfl, rfl⟩
set_option maxHeartbeats 1000000 in
set_option maxRecDepth 100000 in
theorem copyCheck_fresh (b : Nat) (w : World) (h0 : w.cell? ⟨b, 0, none⟩ = some (.pointer none)) (hsh : w.shape? b = some (209, 2)) (hfz : w.frozen? ⟨b, 0, none⟩ = false) :
    Calls Tryz.prog 185 #[.pointer (some ⟨b, 0, none⟩)] w fun e w' => e = .returned (.tuple #[]) ∧ w' = w.setCell ⟨b, 0, none⟩ (.pointer (some ⟨b, 0, none⟩)) := by
  obtain ⟨j, hj, hjs⟩ := Option.map_eq_some_iff.1 infoB
  go_enter Tryz.func185, Tryz.ntmps185
  go_wp2
  rw [Lib.run_to_unsafe w ⟨b, 0, none⟩ Tryz.underlying206 Tryz.underlying230 hj (by rw [hjs]; decide) hsh (Nat.zero_lt_succ 1)]
  simp only [Result.andThen]
  rw [Oper.upon_value]
  go_wp2
  rw [run_callFunc_extern Tryz.func192 (by kernel_rfl) (by kernel_rfl) (by kernel_rfl) (e := Extern.AbiNoEscape.same) (by kernel_rfl)]
  rw [Lib.run_noEscape]
  simp only [Result.andThen]
  rw [Oper.upon_value]
  go_wp2
  rw [Lib.run_from_unsafe w ⟨b, 0, none⟩ Tryz.underlying230 Tryz.underlying206 hj hsh liesB]
  simp only [Result.andThen]
  rw [Oper.upon_value]
  go_wp2
  go_end0
  exact ⟨rfl, rfl⟩
def Oth5 (b : Nat) (w w' : World) : Prop := ∀ (k : Nat) (o : Obj), w.heap[k]? = some o → k ≠ b → (∀ c f, o ≠ .cells c 5 f) → w'.heap[k]? = some o
theorem Oth5.refl (b : Nat) (w : World) : Oth5 b w w := fun _ _ h _ _ => h
theorem Oth5.set {b : Nat} {w w' : World} (h : Oth5 b w w') (j : Nat) (v : Value) : Oth5 b w (w'.setCell ⟨b, j, none⟩ v) := fun k o h1 h2 h3 => (Below.heap_setCell w' ⟨b, j, none⟩ v k h2).trans (h k o h1 h2 h3)
theorem Oth5.grown {b : Nat} {B n : Nat} {w w1 w2 : World} {v : Value} {xs : List Value} (h : Oth5 b w w1) (hg : w1.grownBy w2 v.ownBlock) (ho : w1.ownsRow B 5 1 v n xs) : Oth5 b w w2 := fun k o h1 h2 h3 => by
  have h4 := h k o h1 h2 h3
  refine (hg.block k (blk_lt h4) (fun e => ?_)).trans h4
  rcases ho.2 with ⟨rfl, _⟩ | ⟨g, cap, cur, rfl, _, hh, _⟩
  · cases e
  · injection e with e
    change k = g at e
    subst e
    exact h3 _ _ (Option.some.inj (h4.symm.trans hh))
theorem copyCheck_calls (B b : Nat) (bs : List Value) (w : World) (h : Lib.IsBuilder 209 5 B b bs w) :
    Calls Tryz.prog 185 #[.pointer (some ⟨b, 0, none⟩)] w fun e w' => e = .returned (.tuple #[]) ∧ (Lib.BuilderAt 209 5 B b (.pointer (some ⟨b, 0, none⟩)) bs w' ∧ Below B w w' ∧ Oth5 b w w') := by
  rcases h with h | h
  · refine (copyCheck_fresh b w h.cell0 h.shape h.frozen0).mono ?_
    rintro e w' ⟨rfl, rfl⟩
    exact ⟨rfl, h.used _, (Below.refl B w).setCell (p := ⟨b, 0, none⟩) h.1 _, (Oth5.refl b w).set 0 _⟩
  · refine (copyCheck_used b w h.cell0).mono ?_
    rintro e w' ⟨rfl, rfl⟩
    exact ⟨rfl, h, Below.refl B _, Oth5.refl _ _⟩
set_option maxHeartbeats 2000000 in
set_option maxRecDepth 100000 in
theorem WriteString_calls (B b : Nat) (bs : List Value) (s : ByteArray) (w : World) (h : Lib.IsBuilder 209 5 B b bs w) (hlen : bs.length + s.size ≤ 140737488355328) (hBw : B ≤ w.heap.size) :
    Calls Tryz.prog 163 #[.pointer (some ⟨b, 0, none⟩), .string s] w fun e w' => e = .returned (.tuple #[.int .i64 s.size, .nilIface]) ∧ (Lib.BuilderAt 209 5 B b (.pointer (some ⟨b, 0, none⟩)) (bs ++ Lib.strCells s) w' ∧ Below B w w' ∧ Oth5 b w w') := by
  obtain ⟨i0, hi, hz0, hz1, hz2⟩ := info_parts info5
  go_enter Tryz.func163, Tryz.ntmps163
  go_wp2_with (go_at_call 185; refine (copyCheck_calls B b bs _ h).mono ?_)
  rintro e w1 ⟨rfl, h1, hb1, hk1⟩
  obtain ⟨hB, v, hbk, hown, hne⟩ := h1
  have c0 : w1.cell? ⟨b, 0, none⟩ = some (.pointer (some ⟨b, 0, none⟩)) := by rw [Lib.cell_of_heap hbk]; rfl
  have c1 : w1.cell? ⟨b, 1, none⟩ = some v := by rw [Lib.cell_of_heap hbk]; rfl
  go_wp2_with (at_builtin; refine Lib.wpList_append_own_string _ rfl _ _ 207 9 rfl B 5 i0 Tryz.underlying207 Tryz.underlying9 hi hz0 hz1 hz2 _ _ _ rfl hown s rfl ?c3 ?c4 ?c5 ?_)
  case c3 => unfold maxLen; omega
  case c4 => omega
  case c5 => have := hb1.size; omega
  intro v' w2 hown' hgrow _
  have hlt : b < w1.heap.size := by
    rcases Nat.lt_or_ge b w1.heap.size with h' | h'
    · exact h'
    · simp [Array.getElem?_eq_none h'] at hbk
  have hb2 : w2.heap[b]? = some (.cells #[.pointer (some ⟨b, 0, none⟩), v] 209 (0, 0)) := by
    rw [hgrow.block b hlt (fun e => hne e.symm)]
    exact hbk
  have d0 : w2.cell? ⟨b, 0, none⟩ = some (.pointer (some ⟨b, 0, none⟩)) := by rw [Lib.cell_of_heap hb2]; rfl
  have d1 : w2.cell? ⟨b, 1, none⟩ = some v := by rw [Lib.cell_of_heap hb2]; rfl
  have f1 : w2.frozen? ⟨b, 1, none⟩ = false := Lib.frozen_of_heap hb2 1
  obtain ⟨ao, n', cap, rfl⟩ : ∃ ao n' cap, v' = .slice ao n' cap := by
    rcases hown'.2 with ⟨hv, _⟩ | ⟨g, cap, cur, hv, _⟩
    · exact ⟨_, _, _, hv⟩
    · exact ⟨_, _, _, hv⟩
  go_wp2
  go_ret2
  refine ⟨rfl, ?_, ?_, (hk1.grown hgrow hown).set 1 _⟩
  · exact Lib.BuilderAt.put (T := 209) (e := 5) hB hb2 (bs' := bs ++ Lib.strCells s) (by simpa [Lib.strCells_length] using hown') (by decide)
  · exact (hb1.grown hgrow (by have := hb1.size; omega) (fun k hk => (hown.lt k hk).1)).setCell (p := ⟨b, 1, none⟩) hB _
end Go.Proofs.YtdaohldmojpihaaGreatDoor.Vt

namespace Go.Proofs.YtdaohldmojpihaaGreatDoor.Vt
open Go.Sort Go.RowKit Go.Proofs.YtdaohldmojpihaaGreatDoorW.PrintWords Go.Proofs.YtdaohldmojpihaaGreatDoorW.PrintLast Go.Proofs.YtdaohldmojpihaaGreatDoorW.PrintMore Go.Proofs.YtdaohldmojpihaaGreatDoorEv Go.Proofs.YtdaohldmojpihaaGreatDoor.X
set_option linter.unusedVariables false
set_option linter.unusedSimpArgs false
open Go.Proofs.YtdaohldmojpihaaGreatDoor.G (Lp)
def okE (x : Lp) : Prop := (-9223372036854775808 ≤ x.f0 ∧ x.f0 ≤ 9223372036854775807) ∧ (-9223372036854775808 ≤ x.f1 ∧ x.f1 ≤ 9223372036854775807)
abbrev Tb (w : World) : Prop := Lib.TabIs Tryz.prog w "internal/strconv.uint64pow10" .u64 Lib.pow10Tab
theorem gnum : Tryz.prog.globalNamed "internal/strconv.uint64pow10" = some 0 := by kernel_rfl
theorem Tb.of {w w' : World} (h : Tb w) (hs : w'.heap[0]? = w.heap[0]?) : Tb w' := by
  unfold Tb Lib.TabIs at h ⊢
  rw [← h]
  simp only [World.var?, gnum, Option.bind_some, hs]
theorem Tb.lt {w : World} (h : Tb w) : 0 < w.heap.size := World.block_lt_of_cell? w ⟨0, 0, none⟩ (h.cell gnum 0 (by decide))
theorem Tb.below {w w' : World} (h : Tb w) (hb : Below w.heap.size w w') : Tb w' := h.of (hb.block _ h.lt)
theorem itoa_to (n : Int) (h : -9223372036854775808 ≤ n ∧ n ≤ 9223372036854775807) (w : World) (ht : Tb w) : Calls Tryz.prog 164 #[.int .i64 n] w fun e w' => e = .returned (.string ⟨(Lib.itoa n).toArray⟩) ∧ Hid (Below w.heap.size w w') := by
  refine (Tryz.strconv_Itoa n h.1 h.2 w ht).mono ?_
  rintro e w' ⟨rfl, k, os, rfl⟩
  refine ⟨rfl, Lib.hid ⟨rfl, rfl, rfl, by simp [grow, World.drewN], fun j hj => ?_⟩⟩
  show (w.heap ++ os)[j]? = w.heap[j]?
  rw [Array.getElem?_append_left hj]
theorem dig_len : ∀ (k u : Nat), u < 10 ^ (k + 1) → (Lib.decDigits u).length ≤ k + 1
  | 0, u, h => by rw [Lib.decDigits, dif_pos (by simpa using h)]; simp
  | k + 1, u, h => by
    rw [Lib.decDigits]
    split
    · simp
    · rw [List.length_append]
      have := dig_len k (u / 10) (by rw [Nat.pow_succ] at h; omega)
      simp
      omega
theorem itoa_len (n : Int) (h : -9223372036854775808 ≤ n ∧ n ≤ 9223372036854775807) : (Lib.itoa n).length ≤ 20 := by
  unfold Lib.itoa
  split
  · have := dig_len 18 n.natAbs (by omega)
    simp
    omega
  · have := dig_len 18 n.toNat (by omega)
    omega
def ent (x : Lp) : List UInt8 := Lib.itoa x.f0 ++ [58] ++ Lib.itoa x.f1 ++ [59]
def keyL (l : List Lp) : List UInt8 := l.flatMap ent
theorem ent_len {x : Lp} (h : okE x) : (ent x).length ≤ 42 := by
  have h1 := itoa_len _ h.1
  have h2 := itoa_len _ h.2
  unfold ent
  simp
  omega
theorem key_len : ∀ (l : List Lp), (∀ x ∈ l, okE x) → (keyL l).length ≤ l.length * 42
  | [], _ => by simp [keyL]
  | x :: r, h => by
    have h1 := ent_len (h x List.mem_cons_self)
    have h2 := key_len r (fun y hy => h y (List.mem_cons_of_mem _ hy))
    unfold keyL at h2 ⊢
    rw [List.flatMap_cons, List.length_append, List.length_cons]
    omega
theorem key_snoc (l : List Lp) (x : Lp) : keyL (l ++ [x]) = keyL l ++ ent x := by simp [keyL]
theorem ent_str (x : Lp) : Lib.strCells ((⟨(Lib.itoa x.f0).toArray⟩ : ByteArray) ++ ⟨#[58]⟩ ++ ⟨(Lib.itoa x.f1).toArray⟩ ++ ⟨#[59]⟩) = Lib.byteCells (ent x) := by
  simp [Lib.strCells, Lib.byteCells, ent, ByteArray.data_append]
theorem bld_below {B b : Nat} {bs : List Value} {w w' : World} (h : Lib.IsBuilder 209 5 B b bs w) (hb : Below w.heap.size w w') : Lib.IsBuilder 209 5 B b bs w' := by
  have key : ∀ p, Lib.BuilderAt 209 5 B b p bs w → Lib.BuilderAt 209 5 B b p bs w' := fun p h => by
    obtain ⟨h1, v, h2, h3, h4⟩ := h
    exact ⟨h1, v, (hb.block b (blk_lt h2)).trans h2, pw_own_below h3 hb, h4⟩
  exact h.imp (key _) (key _)
theorem in37 {w0 w : World} {A : Option Addr} {xs : List Lp} (h : Kd.C k72 w0 A xs.length xs) (hb : Below w0.heap.size w0 w) (k : Nat) (hk : k < xs.length) :
    ∃ ad, A = some ad ∧ ∀ j u, [Value.int .i64 xs[k].f0, .int .i64 xs[k].f1][j]? = some u → w.cell? ((ad.add (k * 2)).add j) = some u := by
  obtain ⟨ad, c, e, _, hK, hc⟩ := Kd.C_get h z72 k (by omega) (by omega)
  have e2 := k72_open hK
  refine ⟨ad, e, fun j u hu => ?_⟩
  rw [add_add]
  refine pw_cell_below hb ?_
  have hg : rdOf z72 xs (k : Int) = xs[k] := by simp [rdOf, List.getD_eq_getElem?_getD, hk]
  have : w0.cell? (ad.add ((k : Int).toNat * 2 + j)) = some u := hc j u (by
    rw [e2]
    show [Value.int .i64 (rdOf z72 xs (k : Int)).f0, Value.int .i64 (rdOf z72 xs (k : Int)).f1][j]? = some u
    rw [hg]; exact hu)
  simpa using this
set_option maxRecDepth 100000 in
set_option maxHeartbeats 8000000 in
theorem Key_calls (A : Option Addr) (c : Nat) (l : List Lp) (w : World) (hr : Kd.C k72 w A l.length l) (ht : Tb w) (hok : ∀ x ∈ l, okE x) (hl : l.length ≤ 4096) :
    Calls Tryz.prog 126 #[.slice A l.length c] w fun e w' => e = .returned (.string ⟨(keyL l).toArray⟩) ∧ Below w.heap.size w w' := by
  have R := Lib.hid hr
  have T := Lib.hid ht
  have O := Lib.hid hok
  clear hr ht hok
  obtain ⟨b, hb⟩ : ∃ b, w.heap.size = b := ⟨_, rfl⟩
  obtain ⟨n, hn⟩ : ∃ n, l.length = n := ⟨_, rfl⟩
  have HN := Lib.hid hn
  rw [hn] at hl ⊢
  clear hn
  go_enter Tryz.func126, Tryz.ntmps126
  go_wp2
  have HB0 : Hid (Lib.IsBuilder 209 5 w.heap.size w.heap.size (Lib.byteCells (keyL (l.take 0))) (w.alloc (.cells #[.pointer none, .slice none 0 0] 209 (0, 0)))) := Lib.hid (.inl ⟨Nat.le_refl _, _, blk_new w _, World.ownsRow_nil _ _ _ _, by simp [Value.ownBlock]⟩)
  have HW0 : Hid (Below w.heap.size w (w.alloc (.cells #[.pointer none, .slice none 0 0] 209 (0, 0)))) := Lib.hid (below_alloc (Below.refl _ _) _)
  generalize w.alloc (.cells #[.pointer none, .slice none 0 0] 209 (0, 0)) = w1 at HB0 HW0 ⊢
  go_loopw [8] (fun v8 wr => ∃ k : Nat, k ≤ n ∧ v8 = .int .i64 k ∧ Hid (Lib.IsBuilder 209 5 w.heap.size w.heap.size (Lib.byteCells (keyL (l.take k))) wr) ∧ Hid (Below w.heap.size w wr)) (fun v8 _ => n - (intOf v8).toNat)
  case atStart => exact ⟨0, by omega, rfl, HB0, HW0⟩
  case round =>
    clear HB0 HW0
    obtain ⟨k, hk, rfl, HB, HW⟩ := hrel
    by_cases hlt : k < n
    · have hkl : k < l.length := by rw [HN.out]; exact hlt
      have hk1 : (k : Int) < (n : Int) := by omega
      have hs1 : -9223372036854775808 ≤ (k : Int) + 1 := by omega
      have hs2 : (k : Int) + 1 ≤ 9223372036854775807 := by omega
      obtain ⟨ad, e, hx⟩ := in37 R.out HW.out k hkl
      cases e
      obtain ⟨x, hxe⟩ : ∃ x, l[k] = x := ⟨_, rfl⟩
      rw [hxe] at hx
      have HX := Lib.hid hxe
      have HOK : Hid (okE x) := Lib.hid (O.out x (hxe ▸ List.getElem_mem hkl))
      have HTK : Hid (keyL (l.take (k + 1)) = keyL (l.take k) ++ ent x) := Lib.hid (by rw [List.take_succ_eq_append_getElem hkl, key_snoc, hxe])
      have HKL : Hid ((keyL (l.take k)).length ≤ 4096 * 42) := Lib.hid (Nat.le_trans (key_len _ (fun y hy => O.out y (List.mem_of_mem_take hy))) (Nat.mul_le_mul_right _ (by rw [List.length_take]; omega)))
      have HC := Lib.hid hx
      have HEL := Lib.hid (ent_len HOK.out)
      have HES := Lib.hid (ent_str x)
      clear hx hxe
      have hxf : ∃ x0 x1, x.f0 = x0 ∧ x.f1 = x1 := ⟨_, _, rfl, rfl⟩
      obtain ⟨x0, x1, e0, e1⟩ := hxf
      rw [e0, e1] at HC HES
      have HI0 : Hid (-9223372036854775808 ≤ x0 ∧ x0 ≤ 9223372036854775807) := Lib.hid (by rw [← e0]; exact HOK.out.1)
      have HI1 : Hid (-9223372036854775808 ≤ x1 ∧ x1 ≤ 9223372036854775807) := Lib.hid (by rw [← e1]; exact HOK.out.2)
      clear e0 e1
      go_wp2_with ((with_reducible refine gate_dst (N := 11) rfl ?_); refine load_cells rfl rfl (ad := ad.add (k * 2)) (cs := [.int .i64 x0, .int .i64 x1]) ?hx Tryz.underlying72 rfl (by kernel_rfl) HC.out ?_; (case hx => first | rfl | (go_simp; done) | (go_simp; rfl)))
      have HC2 : Hid ((wr.alloc (.cells #[.int .i64 x0, .int .i64 x1] 72 (0, 0))).heap[wr.heap.size]? = some (.cells #[.int .i64 x0, .int .i64 x1] 72 (0, 0))) := Lib.hid (blk_new wr _)
      have HWA : Hid (Below wr.heap.size wr (wr.alloc (.cells #[.int .i64 x0, .int .i64 x1] 72 (0, 0)))) := Lib.hid (below_alloc (Below.refl _ _) _)
      have HW2 := Lib.hid (HW.out.trans (HWA.out.mono HW.out.size))
      have HB2 := Lib.hid (bld_below HB.out HWA.out)
      have HQB : Hid (wr.heap.size ≠ b) := Lib.hid (fun e => by
        have : b < wr.heap.size := by
          rcases HB.out with h | h
          · exact hb ▸ h.lt
          · exact hb ▸ h.lt
        omega)
      clear HW HB HWA
      generalize wr.alloc (.cells #[.int .i64 x0, .int .i64 x1] 72 (0, 0)) = W at HC2 HW2 HB2 ⊢
      generalize wr.heap.size = q at HC2 HQB ⊢
      have HT2 := Lib.hid (T.out.below HW2.out)
      have HI := Lib.hid (fun (W : World) (h : Tb W) => itoa_to x0 HI0.out W h)
      have HJ := Lib.hid (fun (W : World) (h : Tb W) => itoa_to x1 HI1.out W h)
      have hl0 := itoa_len x0 HI0.out
      have hl1 := itoa_len x1 HI1.out
      have hz0 : (⟨(Lib.itoa x0).toArray⟩ : ByteArray).size ≤ 20 := by simpa [ByteArray.size] using hl0
      have hz1 : (⟨(Lib.itoa x1).toArray⟩ : ByteArray).size ≤ 20 := by simpa [ByteArray.size] using hl1
      clear hl0 hl1
      generalize (⟨(Lib.itoa x0).toArray⟩ : ByteArray) = s0 at HI HES hz0
      generalize (⟨(Lib.itoa x1).toArray⟩ : ByteArray) = s1 at HJ HES hz1
      have hA : ∀ w, (Op.stringOp .add s0 ⟨#[58]⟩).run Tryz.prog w = .ok (.string (s0 ++ ⟨#[58]⟩)) w := fun w => run_string_add_sum w _ _ (by have : (⟨#[58]⟩ : ByteArray).size = 1 := rfl; omega)
      have hzA : (s0 ++ ⟨#[58]⟩ : ByteArray).size ≤ 21 := by rw [ByteArray.size_append]; have : (⟨#[58]⟩ : ByteArray).size = 1 := rfl; omega
      generalize (s0 ++ ⟨#[58]⟩ : ByteArray) = c0 at hA hzA HES
      have hB : ∀ w, (Op.stringOp .add c0 s1).run Tryz.prog w = .ok (.string (c0 ++ s1)) w := fun w => run_string_add_sum w _ _ (by omega)
      have hzB : (c0 ++ s1 : ByteArray).size ≤ 41 := by rw [ByteArray.size_append]; omega
      generalize (c0 ++ s1 : ByteArray) = c1 at hB hzB HES
      have hC : ∀ w, (Op.stringOp .add c1 ⟨#[59]⟩).run Tryz.prog w = .ok (.string (c1 ++ ⟨#[59]⟩)) w := fun w => run_string_add_sum w _ _ (by have : (⟨#[59]⟩ : ByteArray).size = 1 := rfl; omega)
      have hzC : (c1 ++ ⟨#[59]⟩ : ByteArray).size ≤ 42 := by rw [ByteArray.size_append]; have : (⟨#[59]⟩ : ByteArray).size = 1 := rfl; omega
      generalize (c1 ++ ⟨#[59]⟩ : ByteArray) = c2 at hC hzC HES
      have HZ := Lib.hid hzC
      clear hz0 hz1 hzA hzB hzC
      go_region_held3 (fun w' => w'.cell? ⟨q, 0, none⟩ = some (.int .i64 x0) ∧ w'.cell? ⟨q, 1, none⟩ = some (.int .i64 x1))
        (first | exact ⟨blk_cell (HK5.out q _ ((HB4.out.block q (blk_lt ((HB3.out.block q (blk_lt HC2.out)).trans HC2.out))).trans ((HB3.out.block q (blk_lt HC2.out)).trans HC2.out)) HQB.out (fun c f => by simp)) 0, blk_cell (HK5.out q _ ((HB4.out.block q (blk_lt ((HB3.out.block q (blk_lt HC2.out)).trans HC2.out))).trans ((HB3.out.block q (blk_lt HC2.out)).trans HC2.out)) HQB.out (fun c f => by simp)) 1⟩ | exact ⟨blk_cell HC2.out 0, blk_cell HC2.out 1⟩ | exact ⟨pw_cell_below HB3.out (blk_cell HC2.out 0), pw_cell_below HB3.out (blk_cell HC2.out 1)⟩ | exact ⟨pw_cell_below HB4.out (pw_cell_below HB3.out (blk_cell HC2.out 0)), pw_cell_below HB4.out (pw_cell_below HB3.out (blk_cell HC2.out 1))⟩ | go_keep)
        (first
          | (go_at_call 164; refine (HI.out _ ?h1).mono ?_; (case h1 => first | exact HT2.out | exact HT2.out.below (pw_below_drewN (Below.refl _ _) 1)); rintro e w3 ⟨rfl, HB3⟩)
          | (go_at_call 164; refine (HJ.out _ ?h1).mono ?_; (case h1 => first | exact HT2.out.below HB3.out | exact (HT2.out.below (pw_below_drewN (Below.refl _ _) 1)).below HB3.out); rintro e w4 ⟨rfl, HB4⟩)
          | (go_at_call 163; refine (WriteString_calls w.heap.size b (Lib.byteCells (keyL (l.take k))) c2 w4 ?hb1 ?hb2 ?hb3).mono ?_; (case hb1 => rw [← hb]; first | exact bld_below (bld_below HB2.out HB3.out) HB4.out | exact bld_below (bld_below (bld_below HB2.out (pw_below_drewN (Below.refl _ _) 1)) HB3.out) HB4.out); (case hb2 => rw [Lib.byteCells_length]; have := HKL.out; have := HZ.out; omega); (case hb3 => exact Nat.le_trans HW2.out.size (Nat.le_trans HB3.out.size HB4.out.size)); rintro e w5 ⟨rfl, HB5, HW5, hk5⟩; have HK5 := Lib.hid hk5; clear hk5))
      go_wp2
      go_roundw
      case rel =>
        refine ⟨k + 1, by omega, by simp, Lib.hid ?_, Lib.hid ?_⟩
        · rw [HTK.out, Lib.byteCells_append, ← HES.out]
          exact .inr (hb ▸ HB5)
        · have h34 : Below w.heap.size w w4 := by
            first
              | exact (HW2.out.trans (HB3.out.mono HW2.out.size)).trans (HB4.out.mono (Nat.le_trans HW2.out.size HB3.out.size))
              | exact ((HW2.out.trans ((pw_below_drewN (Below.refl _ _) 1).mono HW2.out.size)).trans (HB3.out.mono HW2.out.size)).trans (HB4.out.mono (Nat.le_trans HW2.out.size HB3.out.size))
          exact h34.trans HW5
      case measure => simp [intOf]; omega
    · obtain rfl : k = n := by omega
      have HK : Hid (l.take k = l) := Lib.hid (List.take_of_length_le (by rw [HN.out]; exact Nat.le_refl _))
      rw [HK.out] at HB
      go_wp2_with (go_at_call 165; refine (Tryz.Builder_String_any w.heap.size b (keyL l) _ (hb ▸ HB.out) HW.out.size).mono ?_; rintro e w5 ⟨rfl, HW5⟩)
      go_ret
      exact ⟨rfl, HW.out.trans HW5⟩
end Go.Proofs.YtdaohldmojpihaaGreatDoor.Vt
