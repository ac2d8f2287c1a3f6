/- member: a map of neighbours, abstractly: what each number from 0 to 47 holds; laws on it, a store at a key that is there among them, while the map is ranged over. -/
import Derived.Maps.RangeWalk
import Derived.Maps.OwnSet
import Derived.Maps.Ext
import Derived.Lib.SlKeysI
import Derived.Lib.Hide
import Derived.Test.YtcopnddmkmgihaaEv
namespace Go.Proofs.Ytcopnddmkmgihaa.Mb
open Go.RowKit Go.Maps Go.ChangeMaps Go.MapKept
open Go.WideElems (Fit rd rg pl rd_key rd_val rg_of other_key rd_mk)
set_option linter.unusedVariables false
set_option linter.unusedSimpArgs false
/-- A neighbour as a value, and as it reads. -/
def nv (v : Int × Int) : Value := .agg #[.int .i64 v.1, .int .i64 v.2]
def pr (v : Int × Int) : DataW Unit := .agg [.lit (.int .i64 v.1), .lit (.int .i64 v.2)]
def nearE (v : Value) : Option (DataW Unit × List MemPlace) :=
  match v with
  | .agg cs => match cs.toList with
    | [.int .i64 a, .int .i64 q] => some (pr (a, q), [])
    | _ => none
  | _ => none
theorem nearE_mk (v : Int × Int) : nearE (nv v) = some (pr v, []) := rfl
theorem nearE_inv {v : Value} {y : DataW Unit × List MemPlace} (h : nearE v = some y) : ∃ c : Int × Int, v = nv c ∧ y = (pr c, []) := by
  unfold nearE at h
  split at h
  · rename_i cs
    split at h
    · rename_i a q hl
      cases h
      refine ⟨(a, q), ?_, rfl⟩
      unfold nv
      congr 1
      exact Array.toList_inj.1 hl
    · cases h
  · cases h
theorem pr_inj {a b : Int × Int} (h : pr a = pr b) : a = b := by
  unfold pr at h
  injection h with h
  injection h with h1 h2
  injection h2 with h2 _
  injection h1 with h1
  injection h1 with _ h1
  injection h2 with h2
  injection h2 with _ h2
  exact Prod.ext h1 h2
abbrev ky (k : Int) : Lit := .int .i64 k
theorem ky_key (k : Int) : WideAt.IsKeyLit (ky k) := by first | exact trivial | (unfold WideAt.IsKeyLit; simp [ky])
theorem ky_ne {a b : Int} (h : a ≠ b) : ky a ≠ ky b := fun e => h (by injection e)
/-- What each number holds. -/
abbrev FT := Nat → Option (Int × Int)
/-- The map reads so. -/
structure Ab (D : DataW Unit) (f : FT) : Prop where
  has : ∀ k : Nat, k < 48 → Maps.has D (ky k) = (f k).isSome
  only : ∀ kl, Maps.has D kl = true → ∃ k : Nat, k < 48 ∧ kl = ky k
  at_ : ∀ (k : Nat) v, k < 48 → f k = some v → ∀ zd, D.atKey (ky k) zd = pr v
def upd (f : FT) (k : Nat) (v : Option (Int × Int)) : FT := fun j => if j = k then v else f j
theorem ab_empty : Ab (.map []) (fun _ => none) := ⟨fun _ _ => rfl, fun kl h => absurd h (by simp [Maps.has]), fun _ _ _ h => absurd h (by simp)⟩
theorem Ab.put {D : DataW Unit} {f : FT} (h : Ab D f) (hm : IsMap D) {k : Nat} (hk : k < 48) (v : Int × Int) : Ab (D.put (ky k) (pr v)) (upd f k (some v)) := by
  refine ⟨fun j hj => ?_, fun kl hkl => ?_, fun j u hj hu zd => ?_⟩
  · unfold upd
    by_cases e : j = k
    · subst e
      rw [if_pos rfl, has_put_same hm (ky_key _)]; rfl
    · rw [if_neg e, has_put_other (ky_ne (by omega)), h.has j hj]
  · by_cases e : kl = ky k
    · exact ⟨k, hk, e⟩
    · rw [has_put_other e] at hkl
      exact h.only kl hkl
  · unfold upd at hu
    by_cases e : j = k
    · subst e
      rw [if_pos rfl] at hu
      cases hu
      exact atKey_put_same hm (ky_key _) _ _
    · rw [if_neg e] at hu
      rw [atKey_put_other (ky_ne (by omega))]
      exact h.at_ j u hj hu zd
theorem Ab.del {D : DataW Unit} {f : FT} (h : Ab D f) {k : Nat} (hk : k < 48) : Ab (D.del (ky k)) (upd f k none) := by
  refine ⟨fun j hj => ?_, fun kl hkl => ?_, fun j u hj hu zd => ?_⟩
  · unfold upd
    by_cases e : j = k
    · subst e
      rw [if_pos rfl, has_del_same]; rfl
    · rw [if_neg e, has_del_other (ky_ne (by omega)), h.has j hj]
  · by_cases e : kl = ky k
    · rw [e, has_del_same] at hkl; cases hkl
    · rw [has_del_other e] at hkl
      exact h.only kl hkl
  · unfold upd at hu
    by_cases e : j = k
    · rw [if_pos e] at hu; cases hu
    · rw [if_neg e] at hu
      rw [atKey_del_other (ky_ne (by omega))]
      exact h.at_ j u hj hu zd
theorem Ab.del_out {D : DataW Unit} {f : FT} (h : Ab D f) {k : Int} (hk : k < 0 ∨ 48 ≤ k) : Ab (D.del (ky k)) f := by
  have : Maps.has D (ky k) = false := by
    cases e : Maps.has D (ky k) with
    | false => rfl
    | true =>
      obtain ⟨j, hj, e2⟩ := h.only _ e
      injection e2 with _ e2
      omega
  rw [del_of_not_has this]
  exact h
theorem Ab.out {D : DataW Unit} {f : FT} (h : Ab D f) {k : Int} (hk : k < 0 ∨ 48 ≤ k) : Maps.has D (ky k) = false := by
  cases e : Maps.has D (ky k) with
  | false => rfl
  | true =>
    obtain ⟨j, hj, e2⟩ := h.only _ e
    injection e2 with _ e2
    omega
/-- Who is a neighbour, rising. -/
def nums (f : FT) : List Int := ((List.range 48).filter (fun k => (f k).isSome)).map (fun k : Nat => (k : Int))
theorem mem_nums {f : FT} {x : Int} : x ∈ nums f ↔ ∃ k : Nat, k < 48 ∧ x = k ∧ (f k).isSome = true := by
  unfold nums
  simp only [List.mem_map, List.mem_filter, List.mem_range]
  constructor
  · rintro ⟨k, ⟨h1, h2⟩, rfl⟩; exact ⟨k, h1, rfl, h2⟩
  · rintro ⟨k, h1, rfl, h2⟩; exact ⟨k, ⟨h1, h2⟩, rfl⟩
theorem nums_pair (f : FT) : (nums f).Pairwise (fun a b => a < b) := by
  unfold nums
  rw [List.pairwise_map]
  exact (List.pairwise_lt_range.filter _).imp (fun h => by omega)
theorem nums_nodup (f : FT) : (nums f).Nodup := (nums_pair f).imp (fun h => by omega)
theorem nums_length (f : FT) : (nums f).length ≤ 48 := by
  unfold nums
  rw [List.length_map]
  exact Nat.le_trans (List.length_filter_le _ _) (by simp)
theorem nums_sorted (f : FT) {ss : List Int} (h : ss.Perm (nums f)) : ss.mergeSort leI = nums f := by
  rw [mergeSort_of_perm_i h]
  exact List.mergeSort_of_pairwise ((nums_pair f).imp (fun h => by simp only [leI, decide_eq_true_eq]; omega))
section
variable {P : Program} {w : World} {b n : Nat} {D : DataW Unit} {f : FT}
theorem keys_perm (hown : w.ownsMap P 3 nearE b n D) (hk : P.underlying 3 = some (.int .i64)) (h : Ab D f) : (nums f).Perm (intKeys D) := by
  obtain ⟨es, hD, hpw, _⟩ := hown.entries (int_keyed hk)
  obtain ⟨es', hD', hko⟩ := hown.keysOf
  obtain rfl : es = es' := by rw [hD] at hD'; simpa using hD'
  subst hD
  refine perm_intKeys hpw (fun p hp => by obtain ⟨v, hv⟩ := hko p hp; obtain ⟨x, _, hx, _⟩ := Maps.keyOf_i64 hk hv; exact ⟨x, hx⟩) (nums_nodup f) (fun x => ?_)
  rw [mem_nums]
  constructor
  · rintro ⟨k, hk, rfl, hs⟩
    rw [← h.has k hk] at hs
    exact hs
  · intro hx
    obtain ⟨k, hk, e⟩ := h.only _ hx
    injection e with _ e
    subst e
    exact ⟨k, hk, rfl, by rw [← h.has k hk]; exact hx⟩
theorem size_ab (hown : w.ownsMap P 3 nearE b n D) (hk : P.underlying 3 = some (.int .i64)) (h : Ab D f) : Maps.size D = (nums f).length := by
  rw [(keys_perm hown hk h).length_eq]
  obtain ⟨es, hD, _⟩ := hown.entries (int_keyed hk)
  subst hD
  show es.length = (es.map _).length
  rw [List.length_map]
theorem own48 (hown : w.ownsMap P 3 nearE b n D) (hk : P.underlying 3 = some (.int .i64)) (h : Ab D f) : w.ownsMap P 3 nearE b 48 D := by
  have hs := size_ab hown hk h
  have := nums_length f
  obtain ⟨es, clock, h1, h2, h3, rfl⟩ := hown
  refine ⟨es, clock, h1, h2, ?_, rfl⟩
  have e : Maps.size (DataW.map ((es.toList.map (rg P 3 nearE)).foldr DataW.insert [])) = es.size := length_read es
  omega
end
section
variable {P : Program} {k : TypeId} {R : Value → Option (DataW Unit × List MemPlace)} {w : World} {b r n : Nat} {D : DataW Unit} {left : Lit → Bool} {cnt : Nat}
theorem filter_set_length {α : Type} (q : α → Bool) : ∀ (l : List α) (j : Nat) {x y : α}, l[j]? = some x → q y = q x → ((l.set j y).filter q).length = (l.filter q).length
  | [], _, _, _, h, _ => by simp at h
  | a :: l, 0, x, y, h, e => by
    have h' : a = x := by simpa using h
    subst h'
    rw [List.set_cons_zero, List.filter_cons, List.filter_cons, e]
    split <;> rfl
  | a :: l, j + 1, x, y, h, e => by
    have ih := filter_set_length q l j (y := y) (by simpa using h) e
    rw [List.set_cons_succ, List.filter_cons, List.filter_cons]
    split
    · rw [List.length_cons, List.length_cons, ih]
    · exact ih
/-- A store at a key that is there, while the map is ranged over: who is still to come stays. -/
theorem ranges_put {t e : TypeId} (h : w.ranges P k R b r n D left cnt) (K : Keyed P k) (ht : P.underlying t = some (.map k e)) {key val : Value} {kl : Lit} (hkey : keyOf P k key = some kl) (hl : left kl = false) (hh : Maps.has D kl = true) {yv : DataW Unit × List MemPlace} (hv : R val = some yv) :
    ∃ w', (Instr.mapUpdate t (.map (some b)) key val).run P w = .ok () w' ∧ w'.ranges P k R b r n (D.put kl yv.1) left cnt ∧ w.mapTurned w' b := by
  have hne := h.ne
  obtain ⟨es, clock, since, seen, c0, hb, F, hs, rfl, hr, hold, rfl, hl1, hl2, hsc, hsk⟩ := h
  have keyof : ∀ x ∈ es.toList, (rg P k R x).1 = kl → x.key = key := fun x hx e => by
    obtain ⟨y, hy⟩ := F.reads x hx
    have hy1 := rd_key hy
    rw [rg_of hy] at e
    exact K.inj (e ▸ hy1) hkey
  have ofkey : ∀ x ∈ es.toList, x.key = key → (rg P k R x).1 = kl := fun x hx e => by
    obtain ⟨y, hy⟩ := F.reads x hx
    have hy1 := rd_key hy
    rw [e, hkey] at hy1
    rw [rg_of hy]
    exact (Option.some.inj hy1).symm
  rcases K.find w hkey es.toList F.keys with ⟨_, g⟩ | ⟨j, e0, h1, h2, h3⟩
  · obtain ⟨p, hp, hpk⟩ := List.any_eq_true.1 hh
    obtain ⟨x, hx, rfl⟩ := List.mem_map.1 (mem_sorted.1 hp)
    exact absurd (keyof x hx (WideAt.sameKey_eq hpk)) (g x hx)
  have hj : es[j]? = some e0 := by simpa using h2
  have hm0 : e0 ∈ es.toList := List.mem_of_getElem? h2
  have hkeyf : ∀ e', es[j]? = some e' → ({ e' with key := key, val := val } : MapEntry).key = e'.key := fun e' he' => by rw [hj] at he'; cases he'; exact h3.symm
  have hlist : (es.modify j (fun e' => { e' with key := key, val := val })).toList = es.toList.set j { e0 with key := key, val := val } := by rw [Array.toList_modify, modify_eq_set _ _ _ _ h2]
  have hnew : (rg P k R { e0 with key := key, val := val }).1 = kl := by rw [rg_of (rd_mk hkey hv)]
  have hseen : seen.contains e0.born = true := by
    have := hl1 e0 hm0
    rw [ofkey e0 hm0 h3, hl] at this
    simpa using this.symm
  have who : ∀ x ∈ es.toList.set j { e0 with key := key, val := val }, x = { e0 with key := key, val := val } ∨ (x ∈ es.toList ∧ x.key ≠ key) := by
    intro x hx
    obtain ⟨i, hi, ex⟩ := List.getElem_of_mem hx
    rw [List.getElem_set] at ex
    split at ex
    · exact Or.inl ex.symm
    · rename_i hne
      have hi' : i < es.toList.length := by simpa using hi
      refine Or.inr ⟨ex ▸ List.getElem_mem hi', ?_⟩
      rw [← h3]
      exact other_key F h2 (by rw [List.getElem?_eq_getElem hi', ex]) (fun e1 => hne e1.symm)
  have hjl : j < es.toList.length := (List.getElem?_eq_some_iff.1 h2).1
  have F' : Fit P k R (es.modify j (fun e' => { e' with key := key, val := val })) clock := by
    refine ⟨by simpa using F.size, stamped_modify F.stamped _ _ (fun _ _ => rfl) (fun e' _ he' => hkeyf e' he'), ?_⟩
    intro x hx
    rw [hlist] at hx
    rcases who x hx with rfl | ⟨hx', hne⟩
    · exact ⟨_, rd_mk hkey hv⟩
    · exact F.reads x hx'
  refine ⟨setBlock w b (.map (es.modify j (fun e' => { e' with key := key, val := val })) clock), ?_, ⟨_, clock, since, seen, c0, heap_setBlock_same hb _, F', by simpa using hs, ?_, (heap_setBlock_other hb _ hne).trans hr, ?_, ?_, ?_, ?_, hsc, hsk⟩, ⟨es, clock, _, clock, hb, rfl⟩⟩
  · simp [Instr.mapUpdate, run_underlying ht, MapKept.run_getObj_map hb, K.check w false hkey, h1, hj, h3, K.stays w hkey, MapKept.run_setObj_map _ hb, Result.andThen, setBlock]
  · rw [DataW.put_eq]
    congr 1
    symm
    refine Maps.sorted_put K.one ⟨key, hkey⟩ (Maps.fit_keys F) (Maps.fit_apart K F) ?_
    rw [Maps.filter_one K F hkey h2 h3, hlist, List.map_set, rg_of (rd_mk hkey hv)]
    exact set_perm _ _ (by simpa using hjl) _
  · intro x hx
    rw [hlist] at hx
    rcases who x hx with rfl | ⟨hx', _⟩
    · exact hold e0 hm0
    · exact hold x hx'
  · have e1 : ∀ a : Array MapEntry, (leftOf a seen).size = (a.toList.filter fun e => !seen.contains e.born).length := fun a => by
      unfold leftOf
      rw [← Array.toList_filter, Array.length_toList]
    rw [e1, e1, hlist]
    exact filter_set_length _ _ _ h2 rfl
  · intro x hx
    rw [hlist] at hx
    rcases who x hx with rfl | ⟨hx', _⟩
    · rw [hnew, hl]
      show false = !seen.contains e0.born
      rw [hseen]; rfl
    · exact hl1 x hx'
  · intro kl' hk'
    obtain ⟨x, hx, rfl⟩ := hl2 kl' hk'
    refine ⟨x, ?_, rfl⟩
    have hne2 : x.key ≠ key := fun e => by
      rw [ofkey x hx e, hl] at hk'
      cases hk'
    rw [hlist]
    obtain ⟨i, hi, ex⟩ := List.getElem_of_mem hx
    have hij : i ≠ j := fun e => by
      subst e
      rw [List.getElem?_eq_getElem hi, ex] at h2
      cases h2
      exact hne2 h3
    exact List.mem_of_getElem? (i := i) (by rw [List.getElem?_set_ne (fun e => hij e.symm), List.getElem?_eq_getElem hi, ex])
end
end Go.Proofs.Ytcopnddmkmgihaa.Mb
