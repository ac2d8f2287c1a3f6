/- Plain words on numbers: clipped numbers, division down to a whole number. No program in sight. -/
import Derived.Test.YtaiggeogiolbnaaWMore
namespace Go.Proofs.YtaiggeogiolbnaaPl
open Go.RowKit Go.Proofs.YtaiggeogiolbnaaW.PrintWords Go.Proofs.YtaiggeogiolbnaaW.PrintMore

def clip (x : Int) : Int := if x < -2305843009213693952 then -2305843009213693952 else if x > 2305843009213693952 then 2305843009213693952 else x
theorem clip_bd (x : Int) : -2305843009213693952 ≤ clip x ∧ clip x ≤ 2305843009213693952 := by unfold clip; split <;> (try split) <;> omega
theorem clip_id {x : Int} (h : -2305843009213693952 ≤ x) (h2 : x ≤ 2305843009213693952) : clip x = x := by unfold clip; rw [if_neg (by omega), if_neg (by omega)]
theorem clip_clip (x : Int) : clip (clip x) = clip x := clip_id (clip_bd x).1 (clip_bd x).2
theorem clip_mono {x y : Int} (h : x ≤ y) : clip x ≤ clip y := by unfold clip; repeat' split <;> omega
theorem wrap_id {x : Int} (h : -9223372036854775808 ≤ x) (h2 : x ≤ 9223372036854775807) : wrap64 x = x := by unfold wrap64; omega
/-- A divisor below 1 counts as 1. -/
def one (c : Int) : Int := if clip c < 1 then 1 else clip c
theorem one_bd (c : Int) : 1 ≤ one c ∧ one c ≤ 2305843009213693952 := by have := clip_bd c; unfold one; split <;> omega
theorem mx_one (c : Int) : mx (clip c) 1 = one c := by unfold mx one; rfl
def dv (a c : Int) : Int := clip a / one c
def md (a c : Int) : Int := clip a % one c
theorem dv_bd (a c : Int) : -2305843009213693952 ≤ dv a c ∧ dv a c ≤ 2305843009213693952 := by
  have h1 := clip_bd a; have h2 := one_bd c
  unfold dv
  constructor
  · exact Int.le_ediv_of_mul_le (by omega) (by
      have : -2305843009213693952 * one c ≤ -2305843009213693952 * 1 := Int.mul_le_mul_of_nonpos_left (by omega) (by omega)
      omega)
  · refine Int.le_trans (Int.ediv_le_ediv (by omega) h1.2) ?_
    exact Int.ediv_le_self _ (by omega)
theorem md_bd (a c : Int) : 0 ≤ md a c ∧ md a c < one c := ⟨Int.emod_nonneg _ (by have := one_bd c; omega), Int.emod_lt_of_pos _ (by have := one_bd c; omega)⟩
theorem dv_md (a c : Int) : one c * dv a c + md a c = clip a := Int.mul_ediv_add_emod _ _
/-- What truncated division tells of the one that goes down. -/
theorem tdown {a c : Int} (hc : 0 < c) : (a.tmod c < 0 → a.tdiv c - 1 = a / c ∧ a.tmod c + c = a % c) ∧ (¬ a.tmod c < 0 → a.tdiv c = a / c ∧ a.tmod c = a % c) := by
  have h1 : c * a.tdiv c + a.tmod c = a := Int.mul_tdiv_add_tmod a c
  have h3 : a.tmod c < c := Int.tmod_lt_of_pos a hc
  have h4 : -c < a.tmod c := by
    have := Int.lt_tmod_of_pos a hc
    omega
  constructor
  · intro h
    have := (Int.ediv_emod_unique (a := a) (r := a.tmod c + c) (q := a.tdiv c - 1) hc).2 ⟨by rw [Int.mul_sub]; omega, by omega, by omega⟩
    exact ⟨this.1.symm, this.2.symm⟩
  · intro h
    have := (Int.ediv_emod_unique (a := a) (r := a.tmod c) (q := a.tdiv c) hc).2 ⟨by omega, by omega, by omega⟩
    exact ⟨this.1.symm, this.2.symm⟩
theorem tdiv_bd {a c : Int} (hc : 1 ≤ c) (h1 : -2305843009213693952 ≤ a) (h2 : a ≤ 2305843009213693952) : -2305843009213693952 ≤ a.tdiv c ∧ a.tdiv c ≤ 2305843009213693953 := by
  have e1 : -2305843009213693952 ≤ a / c := Int.le_ediv_of_mul_le (by omega) (by
      have : -2305843009213693952 * c ≤ -2305843009213693952 * 1 := Int.mul_le_mul_of_nonpos_left (by omega) (by omega)
      omega)
  have e2 : a / c ≤ 2305843009213693952 := by
    refine Int.le_trans (Int.ediv_le_ediv (by omega) h2) ?_
    exact Int.ediv_le_self _ (by omega)
  have h := tdown (a := a) (c := c) (by omega)
  by_cases g : a.tmod c < 0
  · have := h.1 g; omega
  · have := h.2 g; omega
theorem tmod_bd {a c : Int} (hc : 1 ≤ c) : -c < a.tmod c ∧ a.tmod c < c := ⟨by have := Int.lt_tmod_of_pos a (show 0 < c by omega); omega, Int.tmod_lt_of_pos a (by omega)⟩
theorem dv_mono {a b c : Int} (h : a ≤ b) : dv a c ≤ dv b c := Int.ediv_le_ediv (by have := one_bd c; omega) (clip_mono h)
/-- So many numbers, from one on. -/
def runl (s : Int) (c : Nat) : List Int := (List.range c).map fun i : Nat => s + (i : Int)
theorem runl_zero (s : Int) : runl s 0 = [] := rfl
theorem runl_len (s : Int) (c : Nat) : (runl s c).length = c := by simp [runl]
theorem runl_add (s : Int) (c d : Nat) : runl s (c + d) = runl s c ++ runl (s + c) d := by
  unfold runl
  rw [List.range_add, List.map_append, List.map_map]
  congr 1
  refine List.map_congr_left fun i _ => ?_
  simp only [Function.comp]
  omega
theorem runl_succ (s : Int) (c : Nat) : runl s (c + 1) = s :: runl (s + 1) c := by
  rw [Nat.add_comm, runl_add, show runl s 1 = [s] by simp [runl]]
  rfl
/-! lists by place -/
theorem drop_at {α : Type} (d : α) (l : List α) (i : Int) (h0 : 0 ≤ i) (h1 : i < (l.length : Int)) : l.drop i.toNat = l.getD i.toNat d :: l.drop (i + 1).toNat := by
  have hl : i.toNat < l.length := by omega
  rw [show (i + 1).toNat = i.toNat + 1 by omega, List.getD_eq_getElem?_getD, List.getElem?_eq_getElem hl]
  exact List.drop_eq_getElem_cons hl
theorem rd_mem (l : List Int) (i : Int) (h0 : 0 ≤ i) (h1 : i < (l.length : Int)) : rd l i ∈ l := by
  have hl : i.toNat < l.length := by omega
  unfold rd
  rw [List.getD_eq_getElem?_getD, List.getElem?_eq_getElem hl]
  exact List.getElem_mem hl
theorem getD_mem {α : Type} (d : α) (l : List α) (i : Int) (h0 : 0 ≤ i) (h1 : i < (l.length : Int)) : l.getD i.toNat d ∈ l := by
  have hl : i.toNat < l.length := by omega
  rw [List.getD_eq_getElem?_getD, List.getElem?_eq_getElem hl]
  exact List.getElem_mem hl
theorem drop_end {α : Type} (l : List α) (i : Int) (h : (l.length : Int) ≤ i) : l.drop i.toNat = [] := List.drop_eq_nil_of_le (by omega)
theorem take_at {α : Type} (d : α) (l : List α) (i : Int) (h0 : 0 ≤ i) (h1 : i < (l.length : Int)) : l.take (i + 1).toNat = l.take i.toNat ++ [l.getD i.toNat d] := by
  have hl : i.toNat < l.length := by omega
  rw [show (i + 1).toNat = i.toNat + 1 by omega, List.getD_eq_getElem?_getD, List.getElem?_eq_getElem hl]
  exact List.take_succ_eq_append_getElem hl
/-! steps to the core -/
/-- One more than the least of the numbers from 0 to D - 1 on the list; D + 1 if there are none. -/
def IsNext (D : Int) (l : List Int) (r : Int) : Prop :=
  (r = D + 1 ∧ ∀ x, x ∈ l → ¬ (0 ≤ x ∧ x < D)) ∨ (∃ m, m ∈ l ∧ 0 ≤ m ∧ m < D ∧ r = m + 1 ∧ ∀ x, x ∈ l → 0 ≤ x → x < D → m ≤ x)
theorem IsNext.unique {D : Int} {l : List Int} {r s : Int} (h : IsNext D l r) (g : IsNext D l s) : r = s := by
  rcases h with ⟨rfl, h⟩ | ⟨m, hm, h0, h1, rfl, h⟩ <;> rcases g with ⟨rfl, g⟩ | ⟨q, hq, g0, g1, rfl, g⟩
  · rfl
  · exact absurd ⟨g0, g1⟩ (h q hq)
  · exact absurd ⟨h0, h1⟩ (g m hm)
  · have a := h q hq g0 g1
    have b := g m hm h0 h1
    omega
theorem IsNext.perm {D : Int} {l l' : List Int} {r : Int} (h : IsNext D l r) (hp : ∀ x, x ∈ l' ↔ x ∈ l) : IsNext D l' r := by
  rcases h with ⟨rfl, h⟩ | ⟨m, hm, h0, h1, rfl, h⟩
  · exact .inl ⟨rfl, fun x hx => h x ((hp x).1 hx)⟩
  · exact .inr ⟨m, (hp m).2 hm, h0, h1, rfl, fun x hx => h x ((hp x).1 hx)⟩
def nstep (D out n : Int) : Int := if 0 ≤ n ∧ n < D ∧ n + 1 < out then n + 1 else out
def nextv (D : Int) (l : List Int) : Int := l.foldl (nstep D) (D + 1)
theorem nstep_le {D out n : Int} : nstep D out n ≤ out := by unfold nstep; split <;> omega
theorem nextv_from (D : Int) (l : List Int) : ∀ out, l.foldl (nstep D) out ≤ out ∧ (∀ x, x ∈ l → 0 ≤ x → x < D → l.foldl (nstep D) out ≤ x + 1) ∧ (l.foldl (nstep D) out = out ∨ ∃ m, m ∈ l ∧ 0 ≤ m ∧ m < D ∧ l.foldl (nstep D) out = m + 1) := by
  induction l with
  | nil => intro out; exact ⟨Int.le_refl _, fun x hx => by simp at hx, .inl rfl⟩
  | cons a l ih =>
    intro out
    obtain ⟨h1, h2, h3⟩ := ih (nstep D out a)
    have h4 := @nstep_le D out a
    refine ⟨by rw [List.foldl_cons]; omega, ?_, ?_⟩
    · intro x hx x0 x1
      rw [List.foldl_cons]
      rcases List.mem_cons.1 hx with rfl | hx
      · have : nstep D out x ≤ x + 1 := by unfold nstep; split <;> omega
        omega
      · exact h2 x hx x0 x1
    · rw [List.foldl_cons]
      rcases h3 with h3 | ⟨m, hm, m0, m1, h3⟩
      · by_cases g : 0 ≤ a ∧ a < D ∧ a + 1 < out
        · exact .inr ⟨a, List.mem_cons_self, g.1, g.2.1, by rw [h3]; unfold nstep; rw [if_pos g]⟩
        · exact .inl (by rw [h3]; unfold nstep; rw [if_neg g])
      · exact .inr ⟨m, List.mem_cons_of_mem _ hm, m0, m1, h3⟩
theorem nextv_is (D : Int) (l : List Int) : IsNext D l (nextv D l) := by
  obtain ⟨h1, h2, h3⟩ := nextv_from D l (D + 1)
  rcases h3 with h3 | ⟨m, hm, m0, m1, h3⟩
  · by_cases g : ∃ x, x ∈ l ∧ 0 ≤ x ∧ x < D
    · obtain ⟨x, hx, x0, x1⟩ := g
      have := h2 x hx x0 x1
      omega
    · exact .inl ⟨h3, fun x hx hh => g ⟨x, hx, hh⟩⟩
  · exact .inr ⟨m, hm, m0, m1, h3, fun x hx x0 x1 => by
      have := h2 x hx x0 x1
      unfold nextv at *
      omega⟩
/-! the first of the best -/
section
variable {α : Type} (us : α → Bool) (lt : α → α → Bool)
def beats (s : Option α) (m : α) : Bool := match s with | none => true | some b => lt m b
def pstep (s : Option α) (m : α) : Option α := if (us m && beats lt s m) = true then some m else s
def pick (l : List α) : Option α := l.foldl (pstep us lt) none
variable {us lt}
theorem pick_from (irr : ∀ a, lt a a = false) (tr : ∀ a b c, lt a b = true → lt b c = true → lt a c = true) (ng : ∀ a b c, lt a b = false → lt b c = false → lt a c = false) (l : List α) : ∀ s : Option α,
    (∀ x, s = some x → us x = true) →
    (l.foldl (pstep us lt) s = none → s = none ∧ ∀ x, x ∈ l → us x = false) ∧
    (∀ b, l.foldl (pstep us lt) s = some b → us b = true ∧ (b ∈ l ∨ s = some b) ∧ (∀ x, x ∈ l → us x = true → lt x b = false) ∧ (∀ x, s = some x → lt x b = false)) := by
  induction l with
  | nil => intro s hs; exact ⟨fun h => ⟨h, fun x hx => by simp at hx⟩, fun b h => ⟨hs b h, .inr h, fun x hx => by simp at hx, fun x hx => by
      have h' : s = some b := h
      rw [h'] at hx
      obtain rfl := Option.some.inj hx
      exact irr _⟩⟩
  | cons a l ih =>
    intro s hs
    rw [List.foldl_cons]
    by_cases g : (us a && beats lt s a) = true
    · have e : pstep us lt s a = some a := by unfold pstep; rw [if_pos g]
      rw [e]
      have g1 : us a = true := by revert g; cases us a <;> simp
      obtain ⟨h1, h2⟩ := ih (some a) (fun x hx => by obtain rfl := Option.some.inj hx; exact g1)
      refine ⟨fun h => by have := (h1 h).1; simp at this, fun b hb => ?_⟩
      obtain ⟨k1, k2, k3, k4⟩ := h2 b hb
      refine ⟨k1, ?_, ?_, ?_⟩
      · rcases k2 with k2 | k2
        · exact .inl (List.mem_cons_of_mem _ k2)
        · obtain rfl := Option.some.inj k2; exact .inl List.mem_cons_self
      · intro x hx hu
        rcases List.mem_cons.1 hx with rfl | hx
        · exact k4 _ rfl
        · exact k3 x hx hu
      · intro x hx
        subst hx
        have g2 : lt a x = true := by revert g; simp [g1, beats]
        cases hxa : lt x b with
        | false => rfl
        | true =>
          have := tr a x b g2 hxa
          rw [k4 a rfl] at this
          exact this.symm
    · have e : pstep us lt s a = s := by unfold pstep; rw [if_neg g]
      rw [e]
      obtain ⟨h1, h2⟩ := ih s hs
      refine ⟨fun h => ?_, fun b hb => ?_⟩
      · obtain ⟨k1, k2⟩ := h1 h
        subst k1
        refine ⟨rfl, fun x hx => ?_⟩
        rcases List.mem_cons.1 hx with rfl | hx
        · simpa [beats] using g
        · exact k2 x hx
      · obtain ⟨k1, k2, k3, k4⟩ := h2 b hb
        refine ⟨k1, ?_, ?_, k4⟩
        · rcases k2 with k2 | k2
          · exact .inl (List.mem_cons_of_mem _ k2)
          · exact .inr k2
        · intro x hx hu
          rcases List.mem_cons.1 hx with rfl | hx
          · cases s with
            | none => simp [hu, beats] at g
            | some y =>
              have g2 : lt x y = false := by simpa [hu, beats] using g
              exact ng x y b g2 (k4 y rfl)
          · exact k3 x hx hu
end
end Go.Proofs.YtaiggeogiolbnaaPl
