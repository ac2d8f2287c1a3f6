/- RouteOrders: the pure statement. -/
import Derived.Test.YtaiggeogiolbnaaK3
import Derived.Test.YtaiggeogiolbnaaPl
namespace Go.Proofs.Ytaiggeogiolbnaa.Pure
open Go.RowKit Go.Proofs.Ytaiggeogiolbnaa.K Go.Proofs.YtaiggeogiolbnaaW.PrintWords Go.Proofs.YtaiggeogiolbnaaW.PrintLast Go.Proofs.YtaiggeogiolbnaaW.PrintMore Go.Proofs.YtaiggeogiolbnaaPl
theorem route_Next_l0 (b0 b1 D b3 b4 b5 b6 b7 b8 b9 b10 b11 : Int) (hD0 : 0 ≤ D) (hD : D ≤ 16) (l : List Int) (hl : l.length ≤ 9223372036854775806) : ∀ (d k : Nat) (out i : Int), 0 ≤ i → i ≤ l.length → (l.length : Int) - i = d → d < k →
    route_Next.l0 k out l (l.length : Int) i b0 b1 D b3 b4 b5 b6 b7 b8 b9 b10 b11 = some ((l.drop i.toNat).foldl (nstep D) out) := by
  intro d
  induction d with
  | zero =>
    intro k out i h0 h1 hd hk
    obtain ⟨k, rfl⟩ : ∃ m, k = m + 1 := ⟨k - 1, by omega⟩
    rw [route_Next.l0, if_neg (by omega), drop_end l i (by omega)]
    rfl
  | succ d ih =>
    intro k out i h0 h1 hd hk
    obtain ⟨k, rfl⟩ : ∃ m, k = m + 1 := ⟨k - 1, by omega⟩
    have e := fun o => ih k o (i + 1) (by omega) (by omega) (by omega) (by omega)
    rw [drop_at 0 l i h0 (by omega), List.foldl_cons]
    rw [route_Next.l0, if_pos (by omega), if_pos h0, if_pos (by omega), wrap_id (x := i + 1) (by omega) (by omega)]
    change _ = some (List.foldl (nstep D) (nstep D out (rd l i)) _)
    unfold nstep
    by_cases g0 : 0 ≤ rd l i
    · rw [if_pos (show rd l i ≥ 0 from g0)]
      by_cases g1 : rd l i < D
      · rw [if_pos g1, wrap_id (x := rd l i + 1) (by omega) (by omega)]
        by_cases g2 : rd l i + 1 < out
        · rw [if_pos g2, if_pos ⟨g0, g1, g2⟩, e]; rfl
        · rw [if_neg g2, if_neg (fun h => g2 h.2.2), e]; rfl
      · rw [if_neg g1, if_neg (fun h => g1 h.2.1), e]; rfl
    · rw [if_neg (show ¬ rd l i ≥ 0 from g0), if_neg (fun h => g0 h.1), e]; rfl
theorem route_Lost_f (b0 b1 D b3 b4 b5 b6 b7 b8 b9 b10 b11 : Int) (hD0 : 0 ≤ D) (hD : D ≤ 16) : route_Lost.f b0 b1 D b3 b4 b5 b6 b7 b8 b9 b10 b11 = some (D + 1) := by
  unfold route_Lost.f
  rw [wrap_id (by omega) (by omega)]
theorem route_Next_f (b0 b1 D b3 b4 b5 b6 b7 b8 b9 b10 b11 : Int) (hD0 : 0 ≤ D) (hD : D ≤ 16) (l : List Int) (hl : l.length ≤ 9223372036854775806) (k : Nat) (hk : l.length < k) :
    route_Next.f k b0 b1 D b3 b4 b5 b6 b7 b8 b9 b10 b11 l = some (nextv D l) := by
  unfold route_Next.f
  rw [route_Lost_f _ _ _ _ _ _ _ _ _ _ _ _ hD0 hD]
  simp only [Option.bind_some]
  rw [route_Next_l0 b0 b1 D b3 b4 b5 b6 b7 b8 b9 b10 b11 hD0 hD l hl l.length k (D + 1) 0 (by omega) (by omega) (by omega) hk]
  rfl
theorem odd_f (b0 b1 D b3 b4 b5 b6 b7 b8 b9 b10 b11 : Int) : clepsydralaw15_odd.f b0 b1 D b3 b4 b5 b6 b7 b8 b9 b10 b11 = some (decide (D < 0 ∨ D > 16)) := by
  unfold clepsydralaw15_odd.f
  by_cases h : D < 0
  · rw [if_pos h]; simp [h]
  · rw [if_neg h]; simp [h]
theorem alive_f (k : Nat) (h : 50 ≤ k) : clepsydralaw15_alive.f k = some true :=
  at_rounds clepsydralaw15_alive.mono h (show clepsydralaw15_alive.f 50 = some true by decide +kernel)
theorem pick_perm (D : Int) (l l' : List S38) (hp : ∀ x, x ∈ l' ↔ x ∈ l) : (pick (us D) ltm l).isSome = (pick (us D) ltm l').isSome ∧ ((pick (us D) ltm l).getD z38).f4 = ((pick (us D) ltm l').getD z38).f4 ∧ ((pick (us D) ltm l).getD z38).f3 = ((pick (us D) ltm l').getD z38).f3 ∧ ((pick (us D) ltm l).getD z38).f1 = ((pick (us D) ltm l').getD z38).f1 := by
  obtain ⟨a1, a2⟩ := pick_from ltm_irr ltm_tr ltm_ng l (us := us D) none (fun x hx => by simp at hx)
  obtain ⟨b1, b2⟩ := pick_from ltm_irr ltm_tr ltm_ng l' (us := us D) none (fun x hx => by simp at hx)
  change (pick (us D) ltm l = none → _) at a1
  change (∀ b, pick (us D) ltm l = some b → _) at a2
  change (pick (us D) ltm l' = none → _) at b1
  change (∀ b, pick (us D) ltm l' = some b → _) at b2
  cases hs : pick (us D) ltm l with
  | none =>
    cases ht : pick (us D) ltm l' with
    | none => exact ⟨rfl, rfl, rfl, rfl⟩
    | some m =>
      obtain ⟨u, hm, _⟩ := b2 m ht
      have hm' : m ∈ l' := by
        rcases hm with hm | hm
        · exact hm
        · simp at hm
      have := (a1 hs).2 m ((hp m).1 hm')
      rw [u] at this
      cases this
  | some n =>
    obtain ⟨u, hn, g, _⟩ := a2 n hs
    have hn' : n ∈ l := by
      rcases hn with hn | hn
      · exact hn
      · simp at hn
    cases ht : pick (us D) ltm l' with
    | none =>
      have := (b1 ht).2 n ((hp n).2 hn')
      rw [u] at this
      cases this
    | some m =>
      obtain ⟨u', hm, g', _⟩ := b2 m ht
      have hm' : m ∈ l' := by
        rcases hm with hm | hm
        · exact hm
        · simp at hm
      have e1 := g m ((hp m).1 hm') u'
      have e2 := g' n ((hp n).2 hn') u
      simp only [ltm, decide_eq_false_iff_not] at e1 e2
      simp only [Option.isSome_some, Option.getD_some]
      exact ⟨trivial, by omega, by omega, by omega⟩
theorem rev_at (l : List S38) (i : Int) (h0 : 0 ≤ i) (h1 : i < (l.length : Int)) : l.reverse.take (i + 1).toNat = l.reverse.take i.toNat ++ [rd_T38 l ((l.length : Int) - 1 - i)] := by
  rw [take_at z38 l.reverse i h0 (by rw [List.length_reverse]; exact h1)]
  have e : l.reverse.getD i.toNat z38 = rd_T38 l ((l.length : Int) - 1 - i) := by
    show _ = l.getD _ z38
    rw [List.getD_eq_getElem?_getD, List.getD_eq_getElem?_getD, List.getElem?_reverse (by omega)]
    congr 2
    omega
  rw [e]
theorem Orders_l0 (b0 b1 D b3 b4 b5 b6 b7 b8 b9 b10 b11 : Int) (hD0 : 0 ≤ D) (hD : D ≤ 16) (l : List S38) (hl : l.length ≤ 256) : ∀ (d k : Nat) (i : Int) (x5 : List S38) (x6 x7 : List Int), 0 ≤ i → i ≤ l.length → (l.length : Int) - i = d → x5 = l.reverse.take i.toNat → x6 = (l.take i.toNat).map (·.f4) → x7 = (l.reverse.take i.toNat).map (·.f4) →
    clepsydralaw15_RouteOrders.l0 (k + 301 + d) l x5 x6 x7 (l.length : Int) i b0 b1 D b3 b4 b5 b6 b7 b8 b9 b10 b11 = some true := by
  intro d
  induction d with
  | zero =>
    intro k i x5 x6 x7 h0 h1 hd h5 h6 h7
    rw [List.take_of_length_le (by rw [List.length_reverse]; omega)] at h5 h7
    rw [List.take_of_length_le (by omega)] at h6
    subst h5 h6 h7
    obtain ⟨e1, e2, e3, e4⟩ := pick_perm D l l.reverse (fun x => List.mem_reverse)
    have en : nextv D (l.map (·.f4)) = nextv D (l.reverse.map (·.f4)) := ((nextv_is D (l.map (·.f4))).perm (l' := l.reverse.map (·.f4)) (fun x => by simp)).unique (nextv_is D _)
    rw [Nat.add_zero, clepsydralaw15_RouteOrders.l0, if_neg (by omega)]
    rw [Choose_f _ _ D _ _ _ _ _ _ _ _ _ l (by omega) (k + 300) (by omega), Choose_f _ _ D _ _ _ _ _ _ _ _ _ l.reverse (by rw [List.length_reverse]; omega) (k + 300) (by rw [List.length_reverse]; omega)]
    rw [route_Next_f _ _ D _ _ _ _ _ _ _ _ _ hD0 hD (l.map (·.f4)) (by rw [List.length_map]; omega) (k + 300) (by rw [List.length_map]; omega), route_Next_f _ _ D _ _ _ _ _ _ _ _ _ hD0 hD (l.reverse.map (·.f4)) (by rw [List.length_map, List.length_reverse]; omega) (k + 300) (by rw [List.length_map, List.length_reverse]; omega)]
    simp only [Option.bind_some]
    rw [if_pos en]
    refine Eq.trans (if_pos ?_) ?_
    · show ((pick (us D) ltm l).isSome == (pick (us D) ltm l.reverse).isSome) = true
      rw [e1]
      simp
    refine Eq.trans (if_pos e2) ?_
    refine Eq.trans (if_pos e3) ?_
    show some (((pick (us D) ltm l).getD z38).f1 == ((pick (us D) ltm l.reverse).getD z38).f1) = some true
    rw [e4]
    simp
  | succ d ih =>
    intro k i x5 x6 x7 h0 h1 hd h5 h6 h7
    have r1 := rev_at l i h0 (by omega)
    have r2 := take_at z38 l i h0 (by omega)
    have l5 : x5.length ≤ l.length := by rw [h5, List.length_take, List.length_reverse]; omega
    have l6 : x6.length ≤ l.length := by rw [h6, List.length_map, List.length_take]; omega
    have l7 : x7.length ≤ l.length := by rw [h7, List.length_map, List.length_take, List.length_reverse]; omega
    rw [← Nat.add_assoc, clepsydralaw15_RouteOrders.l0, if_pos (by omega)]
    rw [wrap_id (x := (l.length : Int) - 1) (by omega) (by omega), wrap_id (x := (l.length : Int) - 1 - i) (by omega) (by omega), if_pos (by omega), if_pos (by omega), if_pos (by omega), if_pos h0, if_pos (by omega), if_pos (by omega), if_pos (by omega), wrap_id (x := i + 1) (by omega) (by omega)]
    refine ih k (i + 1) _ _ _ (by omega) (by omega) (by omega) ?_ ?_ ?_
    · rw [r1, h5]
    · rw [r2, List.map_append, h6]
      rfl
    · rw [r1, List.map_append, h7]
      rfl
theorem RouteOrders : ∀ (a0_0 : Int) (a0_1 : Int) (a0_2 : Int) (a0_3 : Int) (a0_4 : Int) (a0_5 : Int) (a0_6 : Int) (a0_7 : Int) (a0_8 : Int) (a0_9 : Int) (a0_10 : Int) (a0_11 : Int) (l1 : List (Go.Proofs.Ytaiggeogiolbnaa.K.S38)), (Lit.int .i64 a0_0).wf = true → (Lit.int .i64 a0_1).wf = true → (Lit.int .i64 a0_2).wf = true → (Lit.int .i64 a0_3).wf = true → (Lit.int .i64 a0_4).wf = true → (Lit.int .i64 a0_5).wf = true → (Lit.int .i64 a0_6).wf = true → (Lit.int .i64 a0_7).wf = true → (Lit.int .i64 a0_8).wf = true → (Lit.int .i64 a0_9).wf = true → (Lit.int .i64 a0_10).wf = true → (Lit.int .i64 a0_11).wf = true → (l1.length ≤ maxLen ∧ l1.length * 120 ≤ 140737488351232 ∧ ∀ x0_ ∈ l1, ((Lit.int .i64 x0_.f0).wf = true ∧ (Lit.int .i64 x0_.f1).wf = true ∧ ((Lit.int .i64 x0_.f2.f0).wf = true ∧ (Lit.int .i64 x0_.f2.f1).wf = true) ∧ (Lit.int .i64 x0_.f3).wf = true ∧ (Lit.int .i64 x0_.f4).wf = true ∧ True ∧ True ∧ ((Lit.int .i64 x0_.f7.f0).wf = true ∧ (Lit.int .i64 x0_.f7.f1).wf = true) ∧ (Lit.int .i64 x0_.f8).wf = true ∧ ((Lit.int .i64 x0_.f9.f0).wf = true ∧ (Lit.int .i64 x0_.f9.f1).wf = true) ∧ (x0_.f10.length ≤ maxLen ∧ x0_.f10.length * 16 ≤ 140737488351232 ∧ ∀ x1_ ∈ x0_.f10, ((Lit.int .i64 x1_.f0).wf = true ∧ (Lit.int .i64 x1_.f1).wf = true)))) → ∃ k, Go.Proofs.Ytaiggeogiolbnaa.K.clepsydralaw15_RouteOrders.f k a0_0 a0_1 a0_2 a0_3 a0_4 a0_5 a0_6 a0_7 a0_8 a0_9 a0_10 a0_11 l1 = some true := by
  intro b0 b1 D b3 b4 b5 b6 b7 b8 b9 b10 b11 l _ _ _ _ _ _ _ _ _ _ _ _ _
  refine ⟨1000, ?_⟩
  unfold clepsydralaw15_RouteOrders.f
  rw [alive_f 1000 (by omega), odd_f]
  simp only [Option.bind_some, if_true, decide_eq_true_eq]
  by_cases h : D < 0 ∨ D > 16
  · rw [if_pos h, clepsydralaw15_RouteOrders.j0, if_pos rfl]
  · rw [if_neg h, clepsydralaw15_RouteOrders.j0]
    by_cases g : (l.length : Int) > 256
    · rw [if_pos (decide_eq_true g)]
    · rw [if_neg (by simpa using g)]
      obtain ⟨k, hk⟩ : ∃ k, 999 = k + 301 + l.length := ⟨698 - l.length, by omega⟩
      rw [hk]
      exact Orders_l0 b0 b1 D b3 b4 b5 b6 b7 b8 b9 b10 b11 (by omega) (by omega) l (by omega) l.length k 0 [] [] [] (by omega) (by omega) (by omega) rfl rfl rfl
end Go.Proofs.Ytaiggeogiolbnaa.Pure
