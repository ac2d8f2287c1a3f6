/- trim.Agreed at strings, in plain words: the place of what most say, of what more than f say. -/
import Derived.Test.YtdabedknidkimaaDoorProg
namespace Go.Proofs.YtdabedknidkimaaDoor.Aps
/-- How many say x. -/
def cnt (zs : List ByteArray) (x : ByteArray) : Nat := zs.countP (fun y => decide (y = x))
theorem cnt_le (zs : List ByteArray) (x : ByteArray) : cnt zs x ≤ zs.length := List.countP_le_length
theorem cnt_take_succ (zs : List ByteArray) (k : Nat) (hk : k < zs.length) (x : ByteArray) : cnt (zs.take (k + 1)) x = cnt (zs.take k) x + if zs[k]?.getD ByteArray.empty = x then 1 else 0 := by
  unfold cnt
  rw [List.take_add_one, List.countP_append, List.getElem?_eq_getElem hk]
  simp [Option.toList, List.countP_cons]
theorem cnt_all (zs : List ByteArray) (x : ByteArray) : cnt (zs.take zs.length) x = cnt zs x := by rw [List.take_length]
/-- Behind k rounds: the place of the best, and how many say it. -/
def pick (f : Int) (zs : List ByteArray) : Nat → Int × Int
  | 0 => (-1, 0)
  | k + 1 => if f < (cnt zs (zs[k]?.getD ByteArray.empty) : Int) ∧ (pick f zs k).2 < (cnt zs (zs[k]?.getD ByteArray.empty) : Int) then ((k : Int), (cnt zs (zs[k]?.getD ByteArray.empty) : Int)) else pick f zs k
theorem pick_succ (f : Int) (zs : List ByteArray) (k : Nat) : pick f zs (k + 1) = if f < (cnt zs (zs[k]?.getD ByteArray.empty) : Int) ∧ (pick f zs k).2 < (cnt zs (zs[k]?.getD ByteArray.empty) : Int) then ((k : Int), (cnt zs (zs[k]?.getD ByteArray.empty) : Int)) else pick f zs k := rfl
theorem pick_range (f : Int) (zs : List ByteArray) : ∀ k : Nat, -1 ≤ (pick f zs k).1 ∧ (pick f zs k).1 < k ∧ 0 ≤ (pick f zs k).2 ∧ (pick f zs k).2 ≤ zs.length
  | 0 => by unfold pick; simp
  | k + 1 => by
    have := pick_range f zs k
    have h1 := cnt_le zs (zs[k]?.getD ByteArray.empty)
    rw [pick_succ]
    split
    · refine ⟨?_, ?_, ?_, ?_⟩ <;> dsimp only <;> omega
    · refine ⟨?_, ?_, ?_, ?_⟩ <;> omega
def agreed (f : Int) (zs : List ByteArray) : ByteArray × Bool := if (pick f zs zs.length).1 < 0 then (ByteArray.empty, false) else (zs[(pick f zs zs.length).1.toNat]?.getD ByteArray.empty, true)
/-- What the state says of the numbers so far. -/
structure Best (f : Int) (zs : List ByteArray) (k : Nat) (s : Int × Int) : Prop where
  none : s.1 < 0 → s = (-1, 0) ∧ ∀ j, j < k → (cnt zs (zs[j]?.getD ByteArray.empty) : Int) ≤ f ∨ (cnt zs (zs[j]?.getD ByteArray.empty) : Int) ≤ 0
  some : 0 ≤ s.1 → s.1.toNat < k ∧ s.2 = cnt zs (zs[s.1.toNat]?.getD ByteArray.empty) ∧ f < s.2
theorem pick_best (f : Int) (zs : List ByteArray) : ∀ k : Nat, Best f zs k (pick f zs k)
  | 0 => ⟨fun _ => ⟨rfl, fun j hj => absurd hj (by omega)⟩, fun h => absurd h (by unfold pick; decide)⟩
  | k + 1 => by
    have h := pick_best f zs k
    rw [pick_succ]
    split
    · rename_i hc
      refine ⟨fun h1 => ?_, fun _ => ?_⟩
      · dsimp only at h1
        omega
      · dsimp only
        rw [show (k : Int).toNat = k from Int.toNat_natCast k]
        exact ⟨by omega, rfl, hc.1⟩
    · rename_i hc
      refine ⟨fun h1 => ?_, fun h1 => ?_⟩
      · obtain ⟨e, g⟩ := h.none h1
        refine ⟨e, fun j hj => ?_⟩
        by_cases hjk : j = k
        · subst hjk
          rw [e] at hc
          dsimp only at hc
          omega
        · exact g j (by omega)
      · obtain ⟨e, g⟩ := h.some h1
        exact ⟨by omega, g⟩
theorem cnt_pos_mem {zs : List ByteArray} {x : ByteArray} (h : 0 < cnt zs x) : ∃ j, j < zs.length ∧ zs[j]?.getD ByteArray.empty = x := by
  obtain ⟨y, hy, e⟩ := List.countP_pos_iff.1 h
  obtain ⟨j, hj, e2⟩ := List.mem_iff_getElem.1 hy
  refine ⟨j, hj, ?_⟩
  rw [List.getElem?_eq_getElem hj, e2]
  simpa using e
theorem agreed_true {f : Int} {zs : List ByteArray} {x : ByteArray} (h : agreed f zs = (x, true)) : f < (cnt zs x : Int) := by
  unfold agreed at h
  split at h
  · cases h
  · rename_i hn
    obtain ⟨_, h2, h3⟩ := (pick_best f zs zs.length).some (by omega)
    have e := (Prod.mk.inj h).1
    rw [e] at h2
    omega
theorem agreed_false {f : Int} {zs : List ByteArray} {x : ByteArray} (hf : 0 ≤ f) (h : agreed f zs = (x, false)) : x = ByteArray.empty ∧ ∀ y, (cnt zs y : Int) ≤ f := by
  unfold agreed at h
  split at h
  · rename_i hn
    refine ⟨(Prod.mk.inj h).1.symm, fun y => ?_⟩
    by_cases hp : 0 < cnt zs y
    · obtain ⟨j, hj, e⟩ := cnt_pos_mem hp
      have := ((pick_best f zs zs.length).none hn).2 j hj
      rw [e] at this
      omega
    · omega
  · cases h
end Go.Proofs.YtdabedknidkimaaDoor.Aps
