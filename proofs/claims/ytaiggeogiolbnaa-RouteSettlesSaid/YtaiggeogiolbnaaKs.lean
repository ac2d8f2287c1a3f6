/- Steps to the core, in plain words: beats of a fabric that stays come to the shortest ways. -/
import Derived.Test.YtaiggeogiolbnaaPl
namespace Go.Proofs.Ytaiggeogiolbnaa.Ks
open Go.Proofs.YtaiggeogiolbnaaPl
section
variable (n : Nat) (core : Nat → Bool) (H : Nat → Nat → Bool)
/-- The core can be reached within v steps. -/
def W : Nat → Nat → Bool
  | 0, i => core i
  | v + 1, i => W v i || (List.range n).any (fun k => H i k && W v k)
/-- One beat. -/
def beat (D : Int) (b : Nat) (N : Nat → Int) (i : Nat) : Int :=
  if core i = true then 0 else nextv D (((List.range n).filter (H i)).map (fun k => if 0 < b ∧ core k = true then 0 else N k))
/-- What is known behind b beats. -/
def P (D : Int) (b : Nat) (N : Nat → Int) : Prop := ∀ i, i < n → 0 ≤ N i ∧ N i ≤ D + 1 ∧ ∀ v : Nat, v < b → (v : Int) ≤ D → (N i ≤ (v : Int) ↔ W n core H v i = true)
variable {n core H}
theorem W_succ (v i : Nat) : W n core H (v + 1) i = true ↔ W n core H v i = true ∨ ∃ k, k < n ∧ H i k = true ∧ W n core H v k = true := by
  conv => lhs; unfold W
  rw [Bool.or_eq_true, List.any_eq_true]
  constructor
  · rintro (h | ⟨k, hk, h⟩)
    · exact .inl h
    · rw [Bool.and_eq_true] at h
      exact .inr ⟨k, List.mem_range.1 hk, h.1, h.2⟩
  · rintro (h | ⟨k, hk, h1, h2⟩)
    · exact .inl h
    · exact .inr ⟨k, List.mem_range.2 hk, by rw [h1, h2]; rfl⟩
theorem W_mono {u v i : Nat} (h : u ≤ v) (hw : W n core H u i = true) : W n core H v i = true := by
  induction v with
  | zero => obtain rfl : u = 0 := by omega
            exact hw
  | succ v ih =>
    by_cases g : u = v + 1
    · subst g; exact hw
    · exact (W_succ v i).2 (.inl (ih (by omega)))
theorem W_false {u v i : Nat} (h : u ≤ v) (hw : W n core H v i = false) : W n core H u i = false := by
  cases g : W n core H u i with
  | false => rfl
  | true => rw [W_mono h g] at hw; cases hw
theorem W_non {i : Nat} (hc : core i = false) (v : Nat) : W n core H (v + 1) i = true ↔ ∃ k, k < n ∧ H i k = true ∧ W n core H v k = true := by
  rw [W_succ]
  constructor
  · rintro (h | h)
    · induction v with
      | zero => change core i = true at h; rw [hc] at h; cases h
      | succ v ih =>
        rcases (W_succ v i).1 h with h | ⟨k, h1, h2, h3⟩
        · obtain ⟨k, h1, h2, h3⟩ := ih h
          exact ⟨k, h1, h2, W_mono (by omega) h3⟩
        · exact ⟨k, h1, h2, W_mono (by omega) h3⟩
    · exact h
  · exact .inr
theorem next_le {D : Int} {L : List Int} {r : Int} (hD : 0 ≤ D) (h : IsNext D L r) : 1 ≤ r ∧ r ≤ D + 1 ∧ ∀ v : Int, v ≤ D → (r ≤ v ↔ ∃ x, x ∈ L ∧ 0 ≤ x ∧ x + 1 ≤ v) := by
  rcases h with ⟨rfl, h⟩ | ⟨m, hm, h0, h1, rfl, h⟩
  · refine ⟨by omega, by omega, fun v hv => ⟨fun g => absurd g (by omega), ?_⟩⟩
    rintro ⟨x, hx, x0, x1⟩
    exact absurd ⟨x0, by omega⟩ (h x hx)
  · refine ⟨by omega, by omega, fun v hv => ⟨fun g => ⟨m, hm, h0, g⟩, ?_⟩⟩
    rintro ⟨x, hx, x0, x1⟩
    have := h x hx x0 (by omega)
    omega
theorem beat_P {D : Int} (hD : 0 ≤ D) {b : Nat} {N : Nat → Int} (h : 0 < b → P n core H D b N) : P n core H D (b + 1) (beat n core H D b N) := by
  intro i hi
  unfold beat
  cases hc : core i with
  | true =>
    rw [if_pos rfl]
    exact ⟨by omega, by omega, fun v _ _ => ⟨fun _ => W_mono (u := 0) (by omega) hc, fun _ => by omega⟩⟩
  | false =>
    rw [if_neg (by simp)]
    obtain ⟨r0, r1, r2⟩ := next_le hD (nextv_is D (((List.range n).filter (H i)).map (fun k => if 0 < b ∧ core k = true then 0 else N k)))
    generalize nextv D (((List.range n).filter (H i)).map (fun k => if 0 < b ∧ core k = true then 0 else N k)) = r at *
    refine ⟨by omega, r1, fun v hv hvD => ?_⟩
    cases v with
    | zero =>
      refine ⟨fun g => by omega, fun g => ?_⟩
      change core i = true at g
      rw [hc] at g
      cases g
    | succ u =>
      have hb : 0 < b := by omega
      have hP := h hb
      rw [W_non hc u, r2 _ hvD]
      have val : ∀ k, k < n → 0 ≤ (if 0 < b ∧ core k = true then (0 : Int) else N k) ∧ ((if 0 < b ∧ core k = true then (0 : Int) else N k) + 1 ≤ ((u + 1 : Nat) : Int) ↔ W n core H u k = true) := by
        intro k hk
        by_cases g : core k = true
        · rw [if_pos ⟨hb, g⟩]
          exact ⟨by omega, ⟨fun _ => W_mono (u := 0) (by omega) g, fun _ => by omega⟩⟩
        · rw [if_neg (fun q => g q.2)]
          obtain ⟨p0, _, p2⟩ := hP k hk
          have := p2 u (by omega) (by omega)
          exact ⟨p0, ⟨fun q => this.1 (by omega), fun q => by have := this.2 q; omega⟩⟩
      constructor
      · rintro ⟨x, hx, x0, x1⟩
        obtain ⟨k, hk, rfl⟩ := List.mem_map.1 hx
        rw [List.mem_filter, List.mem_range] at hk
        exact ⟨k, hk.1, hk.2, (val k hk.1).2.1 x1⟩
      · rintro ⟨k, hk, h1, h2⟩
        exact ⟨_, List.mem_map.2 ⟨k, List.mem_filter.2 ⟨List.mem_range.2 hk, h1⟩, rfl⟩, (val k hk).1, (val k hk).2.2 h2⟩
/-- The document's way of finding the shortest ways: behind r rounds. -/
def Q (n : Nat) (core : Nat → Bool) (H : Nat → Nat → Bool) (r : Nat) (o : Nat → Int) : Prop := ∀ i, i < n → (o i < 0 ∧ W n core H r i = false) ∨ (0 ≤ o i ∧ (o i).toNat ≤ r ∧ W n core H (o i).toNat i = true ∧ ∀ u, u < (o i).toNat → W n core H u i = false)
theorem Q_zero (o : Nat → Int) (h : ∀ i, i < n → o i = if core i = true then 0 else -1) : Q n core H 0 o := by
  intro i hi
  rw [h i hi]
  cases hc : core i with
  | true => rw [if_pos rfl]; exact .inr ⟨by omega, by simp, hc, fun u hu => absurd hu (by simp)⟩
  | false => rw [if_neg (by simp)]; exact .inl ⟨by omega, hc⟩
theorem Q_step {r : Nat} {o o' : Nat → Int} (h : Q n core H r o) (h1 : ∀ i, i < n → o i < 0 → (∃ k, k < n ∧ o k = r ∧ H i k = true) → o' i = r + 1) (h2 : ∀ i, i < n → ¬ (o i < 0 ∧ ∃ k, k < n ∧ o k = r ∧ H i k = true) → o' i = o i) : Q n core H (r + 1) o' := by
  intro i hi
  rcases h i hi with ⟨g0, g1⟩ | ⟨g0, g1, g2, g3⟩
  · by_cases e : ∃ k, k < n ∧ o k = r ∧ H i k = true
    · rw [h1 i hi g0 e]
      obtain ⟨k, k0, k1, k2⟩ := e
      refine .inr ⟨by omega, by omega, ?_, fun u hu => W_false (v := r) (by omega) g1⟩
      rw [show ((r : Int) + 1).toNat = r + 1 by omega]
      refine (W_succ r i).2 (.inr ⟨k, k0, k2, ?_⟩)
      rcases h k k0 with ⟨q0, _⟩ | ⟨_, _, q2, _⟩
      · omega
      · rw [k1] at q2
        simpa using q2
    · rw [h2 i hi (fun q => e q.2)]
      refine .inl ⟨g0, ?_⟩
      cases hw : W n core H (r + 1) i with
      | false => rfl
      | true =>
        rcases (W_succ r i).1 hw with q | ⟨k, k0, k1, k2⟩
        · rw [g1] at q; cases q
        · rcases h k k0 with ⟨_, q1⟩ | ⟨q0, q1, q2, _⟩
          · rw [q1] at k2; cases k2
          · by_cases q : o k = r
            · exact absurd ⟨k, k0, q, k1⟩ e
            · have : W n core H ((o k).toNat + 1) i = true := (W_succ _ i).2 (.inr ⟨k, k0, k1, q2⟩)
              rw [W_mono (v := r) (by omega) this] at g1
              cases g1
  · rw [h2 i hi (fun q => by omega)]
    exact .inr ⟨g0, by omega, g2, g3⟩
theorem countP_lt {α : Type} {p q : α → Bool} {l : List α} (h : ∀ x, x ∈ l → p x = true → q x = true) {y : α} (hy : y ∈ l) (h1 : q y = true) (h2 : p y = false) : l.countP p < l.countP q := by
  induction l with
  | nil => simp at hy
  | cons a l ih =>
    have hm := List.countP_mono_left (l := l) (p := p) (q := q) (fun x hx => h x (List.mem_cons_of_mem _ hx))
    rw [List.countP_cons, List.countP_cons]
    rcases List.mem_cons.1 hy with rfl | hy
    · rw [if_pos h1, if_neg (by rw [h2]; simp)]; omega
    · have := ih (fun x hx => h x (List.mem_cons_of_mem _ hx)) hy
      have ha := h a List.mem_cons_self
      by_cases g : p a = true
      · rw [if_pos g, if_pos (ha g)]; omega
      · rw [if_neg g]; split <;> omega
theorem stab_from {v : Nat} (h : ∀ k, k < n → W n core H (v + 1) k = W n core H v k) : ∀ d k, k < n → W n core H (v + d) k = W n core H v k := by
  intro d
  induction d with
  | zero => intro k _; rfl
  | succ d ih =>
    intro k hk
    rw [← h k hk, Bool.eq_iff_iff, ← Nat.add_assoc, W_succ, W_succ, ih k hk]
    constructor
    · rintro (q | ⟨j, j0, j1, j2⟩)
      · exact .inl q
      · exact .inr ⟨j, j0, j1, by rw [← ih j j0]; exact j2⟩
    · rintro (q | ⟨j, j0, j1, j2⟩)
      · exact .inl q
      · exact .inr ⟨j, j0, j1, by rw [ih j j0]; exact j2⟩
theorem stab (hn : 0 < n) : ∃ v, v < n ∧ ∀ k, k < n → W n core H (v + 1) k = W n core H v k := by
  apply Classical.byContradiction
  intro hno
  have hs : ∀ v, v < n → (List.range n).countP (W n core H v) < (List.range n).countP (W n core H (v + 1)) := by
    intro v hv
    have : ¬ ∀ k, k < n → W n core H (v + 1) k = W n core H v k := fun q => hno ⟨v, hv, q⟩
    have ⟨k, hk⟩ : ∃ k, ¬ (k < n → W n core H (v + 1) k = W n core H v k) := Classical.byContradiction (fun q => this (fun k hk => Classical.byContradiction (fun q2 => q ⟨k, fun q3 => q2 (q3 hk)⟩)))
    have hkn : k < n := Classical.byContradiction (fun q => hk (fun q2 => absurd q2 q))
    have hne : W n core H (v + 1) k ≠ W n core H v k := fun q => hk (fun _ => q)
    cases h0 : W n core H v k with
    | true => rw [h0, W_mono (by omega) h0] at hne; exact absurd rfl hne
    | false =>
      cases h1 : W n core H (v + 1) k with
      | false => rw [h0, h1] at hne; exact absurd rfl hne
      | true => exact countP_lt (fun x _ hx => W_mono (by omega) hx) (List.mem_range.2 hkn) h1 h0
  have hc0 : 0 < (List.range n).countP (W n core H 0) := by
    apply Classical.byContradiction
    intro hz
    have hall : ∀ k, k < n → W n core H 0 k = false := fun k hk => by
      cases g : W n core H 0 k with
      | false => rfl
      | true => exact absurd (List.countP_pos_iff.2 ⟨k, List.mem_range.2 hk, g⟩) hz
    refine hno ⟨0, hn, fun k hk => ?_⟩
    rw [hall k hk]
    cases g : W n core H (0 + 1) k with
    | false => rfl
    | true =>
      rcases (W_succ 0 k).1 g with q | ⟨j, j0, _, j2⟩
      · rw [hall k hk] at q; cases q
      · rw [hall j j0] at j2; cases j2
  have hg : ∀ v, v ≤ n → (List.range n).countP (W n core H 0) + v ≤ (List.range n).countP (W n core H v) := by
    intro v
    induction v with
    | zero => intro _; omega
    | succ v ih =>
      intro hv
      have a := ih (by omega)
      have b := hs v (by omega)
      omega
  have a := hg n (Nat.le_refl _)
  have b : (List.range n).countP (W n core H n) ≤ (List.range n).length := List.countP_le_length
  rw [List.length_range] at b
  omega
theorem W_full {i : Nat} (hi : i < n) (h : W n core H n i = false) (v : Nat) : W n core H v i = false := by
  obtain ⟨s, hs, hst⟩ := stab (n := n) (core := core) (H := H) (by omega)
  have e := stab_from hst (n - s) i hi
  rw [show s + (n - s) = n by omega, h] at e
  by_cases g : v ≤ s
  · exact W_false g e.symm
  · have e2 := stab_from hst (v - s) i hi
    rw [show s + (v - s) = v by omega, ← e] at e2
    exact e2
/-- Behind D + 1 beats, and by the document. -/
theorem settled {D : Nat} {N o : Nat → Int} (hP : P n core H D (D + 1) N) (hQ : Q n core H n o) {i : Nat} (hi : i < n) : N i = if o i > (D : Int) ∨ o i < 0 then (D : Int) + 1 else o i := by
  obtain ⟨p0, p1, p2⟩ := hP i hi
  rcases hQ i hi with ⟨g0, g1⟩ | ⟨g0, _, g2, g3⟩
  · rw [if_pos (.inr g0)]
    apply Classical.byContradiction
    intro hne
    have := (p2 (N i).toNat (by omega) (by omega)).1 (by omega)
    rw [W_full hi g1] at this
    cases this
  · obtain ⟨d, hd⟩ : ∃ d : Nat, o i = d := ⟨(o i).toNat, by omega⟩
    rw [hd] at g2 g3 ⊢
    rw [Int.toNat_natCast] at g2 g3
    by_cases g : (d : Int) > D
    · rw [if_pos (.inl g)]
      apply Classical.byContradiction
      intro hne
      have h1 := (p2 D (by omega) (by omega)).1 (by omega)
      rw [g3 D (by omega)] at h1
      cases h1
    · rw [if_neg (by omega)]
      have h1 := (p2 d (by omega) (by omega)).2 g2
      apply Classical.byContradiction
      intro hne
      have h2 := (p2 (d - 1) (by omega) (by omega)).1 (by omega)
      rw [g3 (d - 1) (by omega)] at h2
      cases h2
end
end Go.Proofs.Ytaiggeogiolbnaa.Ks
