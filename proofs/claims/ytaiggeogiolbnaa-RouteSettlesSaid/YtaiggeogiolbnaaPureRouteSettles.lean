/- RouteSettles: the pure statement. -/
import Derived.Test.YtaiggeogiolbnaaK5
import Derived.Test.YtaiggeogiolbnaaKs
namespace Go.Proofs.Ytaiggeogiolbnaa.Pure
open Go.RowKit Go.Proofs.Ytaiggeogiolbnaa.K Go.Proofs.Ytaiggeogiolbnaa.Ks Go.Proofs.YtaiggeogiolbnaaW.PrintWords Go.Proofs.YtaiggeogiolbnaaW.PrintLast Go.Proofs.YtaiggeogiolbnaaW.PrintMore Go.Proofs.YtaiggeogiolbnaaPl
theorem route_Next_l0 (b0 b1 D b3 b4 b5 b6 b7 b8 b9 b10 b11 : Int) (hD0 : 0 ≤ D) (hD : D ≤ 16) (l : List Int) (hl : l.length ≤ 9223372036854775806) : ∀ (d k : Nat) (out i : Int), 0 ≤ i → i ≤ l.length → (l.length : Int) - i = d → d < k →
    route_Next.l0 k out l (l.length : Int) i b0 b1 D b3 b4 b5 b6 b7 b8 b9 b10 b11 = some ((l.drop i.toNat).foldl (nstep D) out) := by
  intro d
  induction d with
  | zero =>
    intro k out i h0 h1 hd hk
    obtain ⟨k, rfl⟩ : ∃ m, k = m + 1 := ⟨k - 1, by omega⟩
    rw [route_Next.l0, if_neg (by omega), drop_end l i (by omega)]
    rfl
  | succ d ih =>
    intro k out i h0 h1 hd hk
    obtain ⟨k, rfl⟩ : ∃ m, k = m + 1 := ⟨k - 1, by omega⟩
    have e := fun o => ih k o (i + 1) (by omega) (by omega) (by omega) (by omega)
    rw [drop_at 0 l i h0 (by omega), List.foldl_cons]
    rw [route_Next.l0, if_pos (by omega), if_pos h0, if_pos (by omega), wrap_id (x := i + 1) (by omega) (by omega)]
    change _ = some (List.foldl (nstep D) (nstep D out (rd l i)) _)
    unfold nstep
    by_cases g0 : 0 ≤ rd l i
    · rw [if_pos (show rd l i ≥ 0 from g0)]
      by_cases g1 : rd l i < D
      · rw [if_pos g1, wrap_id (x := rd l i + 1) (by omega) (by omega)]
        by_cases g2 : rd l i + 1 < out
        · rw [if_pos g2, if_pos ⟨g0, g1, g2⟩, e]; rfl
        · rw [if_neg g2, if_neg (fun h => g2 h.2.2), e]; rfl
      · rw [if_neg g1, if_neg (fun h => g1 h.2.1), e]; rfl
    · rw [if_neg (show ¬ rd l i ≥ 0 from g0), if_neg (fun h => g0 h.1), e]; rfl
theorem route_Lost_f (b0 b1 D b3 b4 b5 b6 b7 b8 b9 b10 b11 : Int) (hD0 : 0 ≤ D) (hD : D ≤ 16) : route_Lost.f b0 b1 D b3 b4 b5 b6 b7 b8 b9 b10 b11 = some (D + 1) := by
  unfold route_Lost.f
  rw [wrap_id (by omega) (by omega)]
theorem route_Next_f (b0 b1 D b3 b4 b5 b6 b7 b8 b9 b10 b11 : Int) (hD0 : 0 ≤ D) (hD : D ≤ 16) (l : List Int) (hl : l.length ≤ 9223372036854775806) (k : Nat) (hk : l.length < k) :
    route_Next.f k b0 b1 D b3 b4 b5 b6 b7 b8 b9 b10 b11 l = some (nextv D l) := by
  unfold route_Next.f
  rw [route_Lost_f _ _ _ _ _ _ _ _ _ _ _ _ hD0 hD]
  simp only [Option.bind_some]
  rw [route_Next_l0 b0 b1 D b3 b4 b5 b6 b7 b8 b9 b10 b11 hD0 hD l hl l.length k (D + 1) 0 (by omega) (by omega) (by omega) hk]
  rfl
theorem odd_f (b0 b1 D b3 b4 b5 b6 b7 b8 b9 b10 b11 : Int) : clepsydralaw15_odd.f b0 b1 D b3 b4 b5 b6 b7 b8 b9 b10 b11 = some (decide (D < 0 ∨ D > 16)) := by
  unfold clepsydralaw15_odd.f
  by_cases h : D < 0
  · rw [if_pos h]; simp [h]
  · rw [if_neg h]; simp [h]
theorem alive_f (k : Nat) (h : 50 ≤ k) : clepsydralaw15_alive.f k = some true :=
  at_rounds clepsydralaw15_alive.mono h (show clepsydralaw15_alive.f 50 = some true by decide +kernel)
theorem set_at {α : Type} (l : List α) (i j : Nat) (x d : α) (hi : i < l.length) : (l.set i x).getD j d = if i = j then x else l.getD j d := by
  rw [List.getD_eq_getElem?_getD, List.getD_eq_getElem?_getD, List.getElem?_set]
  by_cases h : i = j
  · subst h; rw [if_pos rfl, if_pos rfl, if_pos hi]; rfl
  · rw [if_neg h, if_neg h]
theorem wrap_u (x : Int) : 0 ≤ IntKind.u64.wrap x := by
  unfold IntKind.wrap
  simp [IntKind.signed, IntKind.bits]
  omega
/-- The first i rows are as long as they should be. -/
def Sh (n i : Nat) (M : List (List Bool)) : Prop := M.length = n ∧ ∀ j, j < i → (M.getD j []).length = n
theorem Sh.put {n i : Nat} {M : List (List Bool)} (h : Sh n i M) (r : Nat) (hr : r < n) (x : List Bool) (hx : x.length = n) : Sh n i (M.set r x) := by
  refine ⟨by rw [List.length_set]; exact h.1, fun j hj => ?_⟩
  rw [set_at _ _ _ _ _ (by rw [h.1]; exact hr)]
  split
  · exact hx
  · exact h.2 j hj
theorem Sh.next {n i : Nat} {M : List (List Bool)} (h : Sh n i M) (hi : i < n) (x : List Bool) (hx : x.length = n) : Sh n (i + 1) (M.set i x) := by
  refine ⟨by rw [List.length_set]; exact h.1, fun j hj => ?_⟩
  rw [set_at _ _ _ _ _ (by rw [h.1]; exact hi)]
  split
  · exact hx
  · exact h.2 j (by omega)
theorem rdL (M : List (List Bool)) (i : Nat) : rd_L7 M (i : Int) = M.getD i [] := by unfold rd_L7; rw [Int.toNat_natCast]
theorem rdI (l : List Int) (i : Nat) : rd l (i : Int) = l.getD i 0 := by unfold rd; rw [Int.toNat_natCast]
theorem rdB (l : List Bool) (i : Nat) : rdOf false l (i : Int) = l.getD i false := by unfold rdOf; rw [Int.toNat_natCast]
/-! the matrix -/
theorem S_l1 (b0 b1 D b3 b4 b5 b6 b7 b8 b9 b10 b11 : Int) (n : Nat) (hn : n ≤ 12) (x1 x3 : List Int) (x2 : List Bool) (h3 : x3.length = n) (i c : Nat) (hi : i < n)
    (hnx : ∀ M', Sh n (i + 1) M' → ∀ k', c < k' → clepsydralaw15_RouteSettles.l0 k' x1 x2 x3 (n : Int) M' (n : Int) ((i + 1 : Nat) : Int) b0 b1 D b3 b4 b5 b6 b7 b8 b9 b10 b11 = some true) :
    ∀ (d k j : Nat) (M : List (List Bool)), j ≤ n → n - j = d → Sh n (i + 1) M → c + d + 1 < k → clepsydralaw15_RouteSettles.l1 k x1 x2 x3 (n : Int) M (i : Int) (n : Int) (i : Int) (n : Int) (j : Int) b0 b1 D b3 b4 b5 b6 b7 b8 b9 b10 b11 = some true := by
  intro d
  induction d with
  | zero =>
    intro k j M h1 hd hM hk
    obtain ⟨k, rfl⟩ : ∃ m, k = m + 1 := ⟨k - 1, by omega⟩
    rw [clepsydralaw15_RouteSettles.l1, if_neg (by omega), wrap_id (by omega) (by omega)]
    exact hnx M hM k (by omega)
  | succ d ih =>
    intro k j M h1 hd hM hk
    obtain ⟨k, rfl⟩ : ∃ m, k = m + 1 := ⟨k - 1, by omega⟩
    have hl := hM.2 i (by omega)
    have hM1 := hM.1
    have put : ∀ b, clepsydralaw15_RouteSettles.l1 k x1 x2 x3 (n : Int) (M.set i ((M.getD i []).set j b)) (i : Int) (n : Int) (i : Int) (n : Int) ((j + 1 : Nat) : Int) b0 b1 D b3 b4 b5 b6 b7 b8 b9 b10 b11 = some true := fun b =>
      ih k (j + 1) _ (by omega) (by omega) (hM.put i hi _ (by rw [List.length_set]; exact hl)) (by omega)
    rw [clepsydralaw15_RouteSettles.l1, if_pos (by omega), if_pos (by omega), if_pos (by omega), wrap_id (x := (j : Int) + 1) (by omega) (by omega), rdL, Int.toNat_natCast, Int.toNat_natCast]
    by_cases g : (i : Int) = (j : Int)
    · rw [if_pos g, if_pos (by omega), if_pos (by omega)]
      exact put false
    · rw [if_neg g, if_pos (by omega), if_pos (wrap_u _), if_pos (by omega), if_pos (by omega)]
      exact put _
theorem S_l0 (b0 b1 D b3 b4 b5 b6 b7 b8 b9 b10 b11 : Int) (n : Nat) (hn : n ≤ 12) (x1 x3 : List Int) (x2 : List Bool) (h1 : x1.length = n) (h3 : x3.length = n) (c : Nat)
    (hnx : ∀ M', Sh n n M' → ∀ k', c < k' → clepsydralaw15_RouteSettles.l2 k' x2 (n : Int) M' x1 0 b0 b1 D b3 b4 b5 b6 b7 b8 b9 b10 b11 = some true) :
    ∀ (d k i : Nat) (M : List (List Bool)), i ≤ n → n - i = d → Sh n i M → c + d * (n + 3) + 1 < k → clepsydralaw15_RouteSettles.l0 k x1 x2 x3 (n : Int) M (n : Int) (i : Int) b0 b1 D b3 b4 b5 b6 b7 b8 b9 b10 b11 = some true := by
  intro d
  induction d with
  | zero =>
    intro k i M hi hd hM hk
    obtain ⟨k, rfl⟩ : ∃ m, k = m + 1 := ⟨k - 1, by omega⟩
    obtain rfl : i = n := by omega
    rw [clepsydralaw15_RouteSettles.l0, if_neg (by omega)]
    simp only [Option.bind_some, List.nil_append]
    rw [if_pos (by simp; omega)]
    exact hnx M hM k (by omega)
  | succ d ih =>
    intro k i M hi hd hM hk
    obtain ⟨k, rfl⟩ : ∃ m, k = m + 1 := ⟨k - 1, by omega⟩
    rw [Nat.add_mul] at hk
    have hM1 := hM.1
    have hrep : (List.replicate n false).length = n := List.length_replicate
    have hM' := hM.next (by omega) (List.replicate n false) hrep
    rw [clepsydralaw15_RouteSettles.l0, if_pos (by omega), if_pos (by omega), if_pos (by omega), if_pos (by omega), if_pos (by omega)]
    simp only [Option.bind_some, Int.toNat_natCast]
    rw [rdL, set_at _ _ _ _ _ (by omega), if_pos rfl, hrep]
    exact S_l1 b0 b1 D b3 b4 b5 b6 b7 b8 b9 b10 b11 n hn x1 x3 x2 h3 i (c + d * (n + 3) + 1) (by omega) (fun M' hM' k' hk' => ih k' (i + 1) M' (by omega) (by omega) hM' hk') n k 0 _ (by omega) (by omega) hM' (by omega)
/-! a beat -/
def co (x2 : List Bool) (i : Nat) : Bool := x2.getD i false
def he (M : List (List Bool)) (i k : Nat) : Bool := (M.getD i []).getD k false
def ne (x : List Int) (i : Nat) : Int := x.getD i 0
def vals (x2 : List Bool) (M : List (List Bool)) (x13 : List Int) (b i j : Nat) : List Int := ((List.range j).filter (he M i)).map (fun k => if 0 < b ∧ co x2 k = true then 0 else ne x13 k)
theorem vals_succ (x2 : List Bool) (M : List (List Bool)) (x13 : List Int) (b i j : Nat) : vals x2 M x13 b i (j + 1) = if he M i j = true then vals x2 M x13 b i j ++ [if 0 < b ∧ co x2 j = true then 0 else ne x13 j] else vals x2 M x13 b i j := by
  unfold vals
  rw [List.range_succ, List.filter_append, List.map_append]
  by_cases h : he M i j = true
  · rw [if_pos h]; simp [List.filter_cons, h]
  · rw [if_neg h]; simp [List.filter_cons, h]
theorem vals_len (x2 : List Bool) (M : List (List Bool)) (x13 : List Int) (b i j : Nat) : (vals x2 M x13 b i j).length ≤ j := by
  unfold vals
  rw [List.length_map]
  exact Nat.le_trans (List.length_filter_le _ _) (by rw [List.length_range]; exact Nat.le_refl _)
theorem S_l4 (b0 b1 D b3 b4 b5 b6 b7 b8 b9 b10 b11 : Int) (hD0 : 0 ≤ D) (hD : D ≤ 16) (n : Nat) (hn : n ≤ 12) (x2 : List Bool) (h2 : x2.length = n) (M : List (List Bool)) (hM : Sh n n M) (x13 x15 : List Int) (h13 : x13.length = n) (h15 : x15.length = n) (b i c : Nat) (hi : i < n)
    (hnx : ∀ k', c < k' → clepsydralaw15_RouteSettles.l3 k' x2 (n : Int) M x13 (b : Int) (x15.set i (beat n (co x2) (he M) D b (ne x13) i)) (n : Int) ((i + 1 : Nat) : Int) b0 b1 D b3 b4 b5 b6 b7 b8 b9 b10 b11 = some true) :
    ∀ (d k j : Nat) (x17 : List Int), j ≤ n → n - j = d → x17 = vals x2 M x13 b i j → c + 2 * d + n + 2 < k → clepsydralaw15_RouteSettles.l4 k x2 (n : Int) M x13 (b : Int) x15 (i : Int) x17 (n : Int) (i : Int) (n : Int) (j : Int) b0 b1 D b3 b4 b5 b6 b7 b8 b9 b10 b11 = some true := by
  intro d
  induction d with
  | zero =>
    intro k j x17 hj hd hx hk
    obtain ⟨k, rfl⟩ : ∃ m, k = m + 1 := ⟨k - 1, by omega⟩
    obtain rfl : j = n := by omega
    have hlen := vals_len x2 M x13 b i j
    rw [clepsydralaw15_RouteSettles.l4, if_neg (by omega), hx, route_Next_f _ _ D _ _ _ _ _ _ _ _ _ hD0 hD _ (by omega) k (by omega)]
    simp only [Option.bind_some, Int.toNat_natCast]
    rw [if_pos (by omega), if_pos (by omega), if_pos (by omega), rdB, wrap_id (x := (i : Int) + 1) (by omega) (by omega)]
    have e := hnx k (by omega)
    unfold beat at e
    by_cases g : x2.getD i false = true
    · rw [if_pos g, List.set_set]
      rw [if_pos (show co x2 i = true from g)] at e
      exact e
    · rw [if_neg g]
      rw [if_neg (show ¬ co x2 i = true from g)] at e
      exact e
  | succ d ih =>
    intro k j x17 hj hd hx hk
    obtain ⟨k, rfl⟩ : ∃ m, k = m + 2 := ⟨k - 2, by omega⟩
    have hl := hM.2 i hi
    have hM1 := hM.1
    have hlen := vals_len x2 M x13 b i j
    have hv := vals_succ x2 M x13 b i j
    have hx17 : x17.length ≤ 12 := by rw [hx]; omega
    have nxt : ∀ y, y = vals x2 M x13 b i (j + 1) → clepsydralaw15_RouteSettles.l4 k x2 (n : Int) M x13 (b : Int) x15 (i : Int) y (n : Int) (i : Int) (n : Int) ((j + 1 : Nat) : Int) b0 b1 D b3 b4 b5 b6 b7 b8 b9 b10 b11 = some true := fun y hy => ih k (j + 1) y (by omega) (by omega) hy (by omega)
    rw [clepsydralaw15_RouteSettles.l4, if_pos (by omega), if_pos (by omega), if_pos (by omega), if_pos (by omega), rdL, if_pos (by omega), rdB]
    have j6f : clepsydralaw15_RouteSettles.j6 (k + 1) x2 (n : Int) M x13 (b : Int) x15 (i : Int) x17 (j : Int) (n : Int) (i : Int) (n : Int) (j : Int) false b0 b1 D b3 b4 b5 b6 b7 b8 b9 b10 b11 = if he M i j = true then clepsydralaw15_RouteSettles.l4 k x2 (n : Int) M x13 (b : Int) x15 (i : Int) (x17 ++ [ne x13 j]) (n : Int) (i : Int) (n : Int) ((j + 1 : Nat) : Int) b0 b1 D b3 b4 b5 b6 b7 b8 b9 b10 b11 else clepsydralaw15_RouteSettles.l4 k x2 (n : Int) M x13 (b : Int) x15 (i : Int) x17 (n : Int) (i : Int) (n : Int) ((j + 1 : Nat) : Int) b0 b1 D b3 b4 b5 b6 b7 b8 b9 b10 b11 := by
      rw [clepsydralaw15_RouteSettles.j6, if_neg (by simp), if_pos (by omega), if_pos (by omega), if_pos (by omega), rdL, if_pos (by omega), rdB, wrap_id (x := (j : Int) + 1) (by omega) (by omega)]
      by_cases gg : he M i j = true
      · rw [if_pos gg, if_pos (show (M.getD i []).getD j false = true from gg), if_pos (by omega), if_pos (by omega), rdI]
        rfl
      · rw [if_neg gg, if_neg (show ¬ (M.getD i []).getD j false = true from gg)]
        rfl
    have j6t : clepsydralaw15_RouteSettles.j6 (k + 1) x2 (n : Int) M x13 (b : Int) x15 (i : Int) x17 (j : Int) (n : Int) (i : Int) (n : Int) (j : Int) true b0 b1 D b3 b4 b5 b6 b7 b8 b9 b10 b11 = clepsydralaw15_RouteSettles.l4 k x2 (n : Int) M x13 (b : Int) x15 (i : Int) (x17 ++ [0]) (n : Int) (i : Int) (n : Int) ((j + 1 : Nat) : Int) b0 b1 D b3 b4 b5 b6 b7 b8 b9 b10 b11 := by
      rw [clepsydralaw15_RouteSettles.j6, if_pos rfl, if_pos (by omega), wrap_id (x := (j : Int) + 1) (by omega) (by omega)]
      rfl
    by_cases g : he M i j = true
    · rw [if_pos g] at hv j6f
      rw [if_pos (show (M.getD i []).getD j false = true from g)]
      by_cases gb : 0 < b
      · rw [if_pos (by omega), if_pos (by omega), rdB]
        by_cases gc : co x2 j = true
        · rw [if_pos ⟨gb, gc⟩] at hv
          rw [show x2.getD j false = true from gc, j6t]
          exact nxt _ (by rw [hv, hx])
        · rw [if_neg (fun q => gc q.2)] at hv
          rw [show x2.getD j false = false by simpa [co] using gc, j6f]
          exact nxt _ (by rw [hv, hx])
      · rw [if_neg (fun q => gb q.1)] at hv
        rw [if_neg (by omega), j6f]
        exact nxt _ (by rw [hv, hx])
    · rw [if_neg g] at hv j6f
      rw [if_neg (show ¬ (M.getD i []).getD j false = true from g), j6f]
      exact nxt _ (by rw [hv, hx])
theorem S_l3 (b0 b1 D b3 b4 b5 b6 b7 b8 b9 b10 b11 : Int) (hD0 : 0 ≤ D) (hD : D ≤ 16) (n : Nat) (hn : n ≤ 12) (x2 : List Bool) (h2 : x2.length = n) (M : List (List Bool)) (hM : Sh n n M) (x13 : List Int) (h13 : x13.length = n) (b c : Nat) (hb : b ≤ 16)
    (hnx : ∀ x15' : List Int, x15'.length = n → (∀ j, j < n → ne x15' j = beat n (co x2) (he M) D b (ne x13) j) → ∀ k', c < k' → clepsydralaw15_RouteSettles.l2 k' x2 (n : Int) M x15' ((b + 1 : Nat) : Int) b0 b1 D b3 b4 b5 b6 b7 b8 b9 b10 b11 = some true) :
    ∀ (d k i : Nat) (x15 : List Int), x15.length = n → i ≤ n → n - i = d → (∀ j, j < i → ne x15 j = beat n (co x2) (he M) D b (ne x13) j) → c + d * (3 * n + 6) + 1 < k → clepsydralaw15_RouteSettles.l3 k x2 (n : Int) M x13 (b : Int) x15 (n : Int) (i : Int) b0 b1 D b3 b4 b5 b6 b7 b8 b9 b10 b11 = some true := by
  intro d
  induction d with
  | zero =>
    intro k i x15 h15 hi hd hx hk
    obtain ⟨k, rfl⟩ : ∃ m, k = m + 1 := ⟨k - 1, by omega⟩
    obtain rfl : i = n := by omega
    rw [clepsydralaw15_RouteSettles.l3, if_neg (by omega), wrap_id (x := (b : Int) + 1) (by omega) (by omega)]
    exact hnx x15 h15 hx k (by omega)
  | succ d ih =>
    intro k i x15 h15 hi hd hx hk
    obtain ⟨k, rfl⟩ : ∃ m, k = m + 1 := ⟨k - 1, by omega⟩
    rw [Nat.add_mul] at hk
    rw [clepsydralaw15_RouteSettles.l3, if_pos (by omega), h15]
    refine S_l4 b0 b1 D b3 b4 b5 b6 b7 b8 b9 b10 b11 hD0 hD n hn x2 h2 M hM x13 x15 h13 h15 b i (c + d * (3 * n + 6) + 1) (by omega) (fun k' hk' => ?_) n k 0 [] (by omega) (by omega) rfl (by omega)
    refine ih k' (i + 1) _ (by rw [List.length_set]; exact h15) (by omega) (by omega) (fun j hj => ?_) hk'
    unfold ne
    rw [set_at _ _ _ _ _ (by omega)]
    split
    · rename_i e; rw [e]
    · exact hx j (by omega)
/-! the document's shortest ways -/
def Got (x2 : List Bool) (M : List (List Bool)) (n : Nat) (r : Option (List Int)) : Prop := ∃ o, r = some o ∧ o.length = n ∧ Q n (co x2) (he M) n (ne o)
def stepv (M : List (List Bool)) (o : Nat → Int) (r m j : Nat) : Int := if o m < 0 ∧ (List.range j).any (fun k => o k == (r : Int) && he M m k) = true then (r : Int) + 1 else o m
theorem stepv_zero (M : List (List Bool)) (o : Nat → Int) (r m : Nat) : stepv M o r m 0 = o m := by unfold stepv; simp
theorem stepv_succ (M : List (List Bool)) (o : Nat → Int) (r m j : Nat) : stepv M o r m (j + 1) = if o m < 0 ∧ o j = r ∧ he M m j = true then (r : Int) + 1 else stepv M o r m j := by
  unfold stepv
  rw [List.range_succ, List.any_append]
  generalize (List.range j).any (fun k => o k == (r : Int) && he M m k) = A
  rw [show [j].any (fun k => o k == (r : Int) && he M m k) = (o j == (r : Int) && he M m j) by simp]
  generalize he M m j = b
  by_cases g : o m < 0 <;> by_cases g2 : o j = (r : Int) <;> cases A <;> cases b <;> simp [g, g2]
def Cur (M : List (List Bool)) (o : Nat → Int) (n r i j : Nat) (x5 : List Int) : Prop := x5.length = n ∧ ∀ m, m < n → ne x5 m = stepv M o r m (if m < i then n else if m = i then j else 0)
theorem H_l3 (n : Nat) (hn : n ≤ 12) (x0 : List Bool) (h0 : x0.length = n) (M : List (List Bool)) (hM : Sh n n M) (o : Nat → Int) (r i c : Nat) (hr : r < n) (hi : i < n)
    (hnx : ∀ x5', Cur M o n r (i + 1) 0 x5' → ∀ k', c < k' → Got x0 M n (clepsydraref15_Shortest.l2 k' x0 M x5' (r : Int) (n : Int) ((i + 1 : Nat) : Int))) :
    ∀ (d k j : Nat) (x5 : List Int), j ≤ n → n - j = d → Cur M o n r i j x5 → c + d + 1 < k → Got x0 M n (clepsydraref15_Shortest.l3 k x0 M x5 (r : Int) (i : Int) (n : Int) (i : Int) (n : Int) (j : Int)) := by
  intro d
  induction d with
  | zero =>
    intro k j x5 hj hd hc hk
    obtain ⟨k, rfl⟩ : ∃ m, k = m + 1 := ⟨k - 1, by omega⟩
    obtain rfl : j = n := by omega
    rw [clepsydraref15_Shortest.l3, if_neg (by omega), wrap_id (x := (i : Int) + 1) (by omega) (by omega)]
    refine hnx x5 ⟨hc.1, fun m hm => ?_⟩ k (by omega)
    rw [hc.2 m hm]
    by_cases g : m < i
    · rw [if_pos g, if_pos (by omega)]
    · by_cases g2 : m = i
      · rw [if_neg g, if_pos g2, if_pos (by omega)]
      · rw [if_neg g, if_neg g2, if_neg (by omega)]
        split <;> rfl
  | succ d ih =>
    intro k j x5 hj hd hc hk
    obtain ⟨k, rfl⟩ : ∃ m, k = m + 1 := ⟨k - 1, by omega⟩
    have hc1 := hc.1
    have hl := hM.2 i hi
    have hM1 := hM.1
    have ci := hc.2 i hi
    rw [if_neg (by omega), if_pos rfl] at ci
    have cj : ne x5 j = r ↔ o j = r := by
      rw [hc.2 j (by omega)]
      generalize (if j < i then n else if j = i then j else 0) = z
      unfold stepv
      split
      · rename_i q; have := q.1; constructor <;> intro <;> omega
      · exact Iff.rfl
    have ss := stepv_succ M o r i j
    have keep : stepv M o r i (j + 1) = stepv M o r i j → Cur M o n r i (j + 1) x5 := fun e => ⟨hc1, fun m hm => by
      rw [hc.2 m hm]
      by_cases g : m < i
      · rw [if_pos g, if_pos g]
      · by_cases g2 : m = i
        · rw [if_neg g, if_neg g, if_pos g2, if_pos g2, g2, e]
        · rw [if_neg g, if_neg g, if_neg g2, if_neg g2]⟩
    have e := fun x h => ih k (j + 1) x (by omega) (by omega) h (by omega)
    rw [clepsydraref15_Shortest.l3, if_pos (by omega), if_pos (by omega), if_pos (by omega), wrap_id (x := (j : Int) + 1) (by omega) (by omega), wrap_id (x := (r : Int) + 1) (by omega) (by omega), rdI, rdI, rdL, rdB, Int.toNat_natCast]
    change ne x5 i = _ at ci
    by_cases g : x5.getD i 0 < 0
    · have ho : o i < 0 := by
        have g' : ne x5 i < 0 := g
        rw [ci] at g'
        unfold stepv at g'
        split at g'
        · omega
        · exact g'
      rw [if_pos g, if_pos (by omega), if_pos (by omega)]
      by_cases g1 : x5.getD j 0 = (r : Int)
      · rw [if_pos g1, if_pos (by omega), if_pos (by omega)]
        by_cases g2 : he M i j = true
        · rw [if_pos (show (M.getD i []).getD j false = true from g2)]
          rw [if_pos ⟨ho, cj.1 g1, g2⟩] at ss
          refine e _ ⟨by rw [List.length_set]; exact hc1, fun m hm => ?_⟩
          unfold ne
          rw [set_at _ _ _ _ _ (by omega)]
          by_cases g3 : i = m
          · subst g3
            rw [if_pos rfl, if_neg (by omega), if_pos rfl, ss]
          · rw [if_neg g3, if_neg (show ¬ m = i by omega)]
            have := hc.2 m hm
            rw [if_neg (show ¬ m = i by omega)] at this
            exact this
        · rw [if_neg (show ¬ (M.getD i []).getD j false = true from g2)]
          rw [if_neg (fun q => g2 q.2.2)] at ss
          exact e _ (keep ss)
      · rw [if_neg g1]
        rw [if_neg (fun q => g1 (cj.2 q.2.1))] at ss
        exact e _ (keep ss)
    · rw [if_neg g]
      refine e _ (keep ?_)
      rw [ss]
      split
      · rename_i q
        have g' : ¬ ne x5 i < 0 := g
        rw [ci] at g'
        unfold stepv at g' ⊢
        split
        · rfl
        · rename_i q2
          rw [if_neg q2] at g'
          exact absurd q.1 g'
      · rfl
theorem H_l2 (n : Nat) (hn : n ≤ 12) (x0 : List Bool) (h0 : x0.length = n) (M : List (List Bool)) (hM : Sh n n M) (o : Nat → Int) (r c : Nat) (hr : r < n)
    (hnx : ∀ x5', x5'.length = n → (∀ m, m < n → ne x5' m = stepv M o r m n) → ∀ k', c < k' → Got x0 M n (clepsydraref15_Shortest.l1 k' x0 M x5' ((r + 1 : Nat) : Int))) :
    ∀ (d k i : Nat) (x5 : List Int), i ≤ n → n - i = d → Cur M o n r i 0 x5 → c + d * (n + 3) + 1 < k → Got x0 M n (clepsydraref15_Shortest.l2 k x0 M x5 (r : Int) (n : Int) (i : Int)) := by
  intro d
  induction d with
  | zero =>
    intro k i x5 hi hd hc hk
    obtain ⟨k, rfl⟩ : ∃ m, k = m + 1 := ⟨k - 1, by omega⟩
    obtain rfl : i = n := by omega
    rw [clepsydraref15_Shortest.l2, if_neg (by omega), wrap_id (x := (r : Int) + 1) (by omega) (by omega)]
    exact hnx x5 hc.1 (fun m hm => by rw [hc.2 m hm, if_pos hm]) k (by omega)
  | succ d ih =>
    intro k i x5 hi hd hc hk
    obtain ⟨k, rfl⟩ : ∃ m, k = m + 1 := ⟨k - 1, by omega⟩
    rw [Nat.add_mul] at hk
    rw [clepsydraref15_Shortest.l2, if_pos (by omega), h0]
    exact H_l3 n hn x0 h0 M hM o r i (c + d * (n + 3) + 1) hr (by omega) (fun x5' hc' k' hk' => ih k' (i + 1) x5' (by omega) (by omega) hc' hk') n k 0 x5 (by omega) (by omega) hc (by omega)
theorem H_l1 (n : Nat) (hn : n ≤ 12) (x0 : List Bool) (h0 : x0.length = n) (M : List (List Bool)) (hM : Sh n n M) :
    ∀ (d k r : Nat) (x5 : List Int), r ≤ n → n - r = d → x5.length = n → Q n (co x0) (he M) r (ne x5) → d * 200 + 1 < k → Got x0 M n (clepsydraref15_Shortest.l1 k x0 M x5 (r : Int)) := by
  intro d
  induction d with
  | zero =>
    intro k r x5 hr hd h5 hq hk
    obtain ⟨k, rfl⟩ : ∃ m, k = m + 1 := ⟨k - 1, by omega⟩
    obtain rfl : r = n := by omega
    rw [clepsydraref15_Shortest.l1, if_neg (by omega)]
    exact ⟨x5, rfl, h5, hq⟩
  | succ d ih =>
    intro k r x5 hr hd h5 hq hk
    obtain ⟨k, rfl⟩ : ∃ m, k = m + 1 := ⟨k - 1, by omega⟩
    have hnn : n * (n + 3) ≤ 12 * 15 := Nat.mul_le_mul hn (by omega)
    rw [clepsydraref15_Shortest.l1, if_pos (by omega), h0]
    refine H_l2 n hn x0 h0 M hM (ne x5) r (d * 200 + 1) (by omega) (fun x5' h5' hx k' hk' => ?_) n k 0 x5 (by omega) (by omega) ⟨h5, fun m hm => ?_⟩ (by omega)
    · refine ih k' (r + 1) x5' (by omega) (by omega) h5' (Q_step hq (fun i hi hneg ⟨q, q0, q1, q2⟩ => ?_) (fun i hi hno => ?_)) hk'
      · rw [hx i hi]
        unfold stepv
        rw [if_pos ⟨hneg, List.any_eq_true.2 ⟨q, List.mem_range.2 q0, by simp [q1, q2]⟩⟩]
      · rw [hx i hi]
        unfold stepv
        rw [if_neg (fun z => hno ⟨z.1, ?_⟩)]
        obtain ⟨q, q0, q1⟩ := List.any_eq_true.1 z.2
        rw [Bool.and_eq_true, beq_iff_eq] at q1
        exact ⟨q, List.mem_range.1 q0, q1.1, q1.2⟩
    · rw [if_neg (by omega)]
      split
      · rw [stepv_zero]
      · rw [stepv_zero]
theorem H_l0 (n : Nat) (hn : n ≤ 12) (x0 : List Bool) (h0 : x0.length = n) (M : List (List Bool)) (hM : Sh n n M) :
    ∀ (d k i : Nat) (x5 : List Int), i ≤ n → n - i = d → x5.length = n → (∀ j, j < i → ne x5 j = if co x0 j = true then 0 else -1) → d + 2402 < k → Got x0 M n (clepsydraref15_Shortest.l0 k x0 M x5 (n : Int) (i : Int)) := by
  intro d
  induction d with
  | zero =>
    intro k i x5 hi hd h5 hx hk
    obtain ⟨k, rfl⟩ : ∃ m, k = m + 1 := ⟨k - 1, by omega⟩
    obtain rfl : i = n := by omega
    rw [clepsydraref15_Shortest.l0, if_neg (by omega)]
    exact H_l1 i hn x0 h0 M hM i k 0 x5 (by omega) (by omega) h5 (Q_zero _ hx) (by omega)
  | succ d ih =>
    intro k i x5 hi hd h5 hx hk
    obtain ⟨k, rfl⟩ : ∃ m, k = m + 1 := ⟨k - 1, by omega⟩
    rw [clepsydraref15_Shortest.l0, if_pos (by omega), if_pos (by omega), if_pos (by omega)]
    simp only [Option.bind_some, Int.toNat_natCast]
    rw [if_pos (by omega), rdB, wrap_id (x := (i : Int) + 1) (by omega) (by omega), List.set_set]
    have fin : ∀ v, (v = if co x0 i = true then 0 else -1) → Got x0 M n (clepsydraref15_Shortest.l0 k x0 M (x5.set i v) (n : Int) ((i + 1 : Nat) : Int)) := fun v hv =>
      ih k (i + 1) _ (by omega) (by omega) (by rw [List.length_set]; exact h5) (fun j hj => by
        unfold ne
        rw [set_at _ _ _ _ _ (by omega)]
        split
        · rename_i e; rw [← e]; exact hv
        · exact hx j (by omega)) (by omega)
    by_cases g : co x0 i = true
    · rw [if_pos (show x0.getD i false = true from g)]
      exact fin 0 (by rw [if_pos g])
    · rw [if_neg (show ¬ x0.getD i false = true from g)]
      exact fin (-1) (by rw [if_neg g])
theorem Shortest_f (n : Nat) (hn : n ≤ 12) (x0 : List Bool) (h0 : x0.length = n) (M : List (List Bool)) (hM : Sh n n M) (k : Nat) (hk : 2420 < k) : Got x0 M n (clepsydraref15_Shortest.f k x0 M) := by
  unfold clepsydraref15_Shortest.f
  rw [if_pos (by omega), if_pos (by omega), h0]
  exact H_l0 n hn x0 h0 M hM n k 0 _ (by omega) (by omega) (by simp) (fun j hj => absurd hj (by omega)) (by omega)
/-! all beats, and the comparison -/
theorem S_l5 (b0 b1 D b3 b4 b5 b6 b7 b8 b9 b10 b11 : Int) (hD0 : 0 ≤ D) (hD : D ≤ 16) (n : Nat) (hn : n ≤ 12) (x13 o : List Int) (h13 : x13.length = n) (ho : o.length = n) (he : ∀ i, i < n → ne x13 i = if ne o i > D ∨ ne o i < 0 then D + 1 else ne o i) :
    ∀ (d k i : Nat), i ≤ n → n - i = d → 2 * d + 1 < k → clepsydralaw15_RouteSettles.l5 k x13 o (n : Int) (i : Int) b0 b1 D b3 b4 b5 b6 b7 b8 b9 b10 b11 = some true := by
  intro d
  induction d with
  | zero =>
    intro k i hi hd hk
    obtain ⟨k, rfl⟩ : ∃ m, k = m + 1 := ⟨k - 1, by omega⟩
    rw [clepsydralaw15_RouteSettles.l5, if_neg (by omega)]
  | succ d ih =>
    intro k i hi hd hk
    obtain ⟨k, rfl⟩ : ∃ m, k = m + 2 := ⟨k - 2, by omega⟩
    have e := he i (by omega)
    have nx := ih k (i + 1) (by omega) (by omega) (by omega)
    have j8 : ∀ b : Bool, (b = true ↔ ne o i > D ∨ ne o i < 0) → clepsydralaw15_RouteSettles.j8 (k + 1) x13 (i : Int) (ne o i) o (n : Int) (i : Int) b b0 b1 D b3 b4 b5 b6 b7 b8 b9 b10 b11 = some true := by
      intro b hb
      rw [clepsydralaw15_RouteSettles.j8, wrap_id (x := (i : Int) + 1) (by omega) (by omega), wrap_id (x := D + 1) (by omega) (by omega), rdI]
      by_cases g : ne o i > D ∨ ne o i < 0
      · rw [if_pos g] at e
        rw [if_pos (hb.2 g), if_pos (by omega), if_pos (by omega), if_pos (show x13.getD i 0 = D + 1 from e)]
        exact nx
      · rw [if_neg g] at e
        rw [if_neg (fun q => g (hb.1 q)), if_pos (by omega), if_pos (by omega), if_pos (show x13.getD i 0 = ne o i from e)]
        exact nx
    rw [clepsydralaw15_RouteSettles.l5, if_pos (by omega), if_pos (by omega), if_pos (by omega), rdI]
    by_cases g : o.getD i 0 > D
    · rw [if_pos g]
      exact j8 true ⟨fun _ => .inl g, fun _ => rfl⟩
    · rw [if_neg g]
      exact j8 (decide (o.getD i 0 < 0)) (by
        rw [decide_eq_true_eq]
        exact ⟨.inr, fun q => q.resolve_left g⟩)
theorem P_congr {n : Nat} {core : Nat → Bool} {H : Nat → Nat → Bool} {D : Int} {b : Nat} {N N' : Nat → Int} (h : P n core H D b N) (e : ∀ i, i < n → N' i = N i) : P n core H D b N' := fun i hi => by rw [e i hi]; exact h i hi
theorem S_l2 (b0 b1 D b3 b4 b5 b6 b7 b8 b9 b10 b11 : Int) (hD0 : 0 ≤ D) (hD : D ≤ 16) (n : Nat) (hn : n ≤ 12) (x2 : List Bool) (h2 : x2.length = n) (M : List (List Bool)) (hM : Sh n n M) :
    ∀ (d k b : Nat) (x13 : List Int), x13.length = n → (b : Int) + d = D + 1 → (0 < b → P n (co x2) (he M) D b (ne x13)) → d * 600 + 2450 < k → clepsydralaw15_RouteSettles.l2 k x2 (n : Int) M x13 (b : Int) b0 b1 D b3 b4 b5 b6 b7 b8 b9 b10 b11 = some true := by
  intro d
  induction d with
  | zero =>
    intro k b x13 h13 hb hP hk
    obtain ⟨k, rfl⟩ : ∃ m, k = m + 1 := ⟨k - 1, by omega⟩
    obtain ⟨o, e, ho, hq⟩ := Shortest_f n hn x2 h2 M hM k (by omega)
    rw [clepsydralaw15_RouteSettles.l2, wrap_id (x := D + 1) (by omega) (by omega), if_neg (by omega), e]
    simp only [Option.bind_some]
    rw [ho]
    obtain ⟨D', rfl⟩ : ∃ m : Nat, D = m := ⟨D.toNat, by omega⟩
    obtain rfl : b = D' + 1 := by omega
    have hP' := hP (by omega)
    exact S_l5 b0 b1 D' b3 b4 b5 b6 b7 b8 b9 b10 b11 hD0 hD n hn x13 o h13 ho (fun i hi => settled hP' hq hi) n k 0 (by omega) (by omega) (by omega)
  | succ d ih =>
    intro k b x13 h13 hb hP hk
    obtain ⟨k, rfl⟩ : ∃ m, k = m + 1 := ⟨k - 1, by omega⟩
    have hnn : n * (3 * n + 6) ≤ 12 * 42 := Nat.mul_le_mul hn (by omega)
    have hrep : (List.replicate n (0 : Int)).length = n := List.length_replicate
    rw [clepsydralaw15_RouteSettles.l2, wrap_id (x := D + 1) (by omega) (by omega), if_pos (by omega), if_pos (by omega), if_pos (by omega)]
    simp only [Option.bind_some, Int.toNat_natCast]
    rw [hrep]
    refine S_l3 b0 b1 D b3 b4 b5 b6 b7 b8 b9 b10 b11 hD0 hD n hn x2 h2 M hM x13 h13 b (d * 600 + 2450) (by omega) (fun x15' h15 hx k' hk' => ?_) n k 0 _ hrep (by omega) (by omega) (fun j hj => absurd hj (by omega)) (by omega)
    exact ih k' (b + 1) x15' h15 (by omega) (fun _ => P_congr (beat_P hD0 hP) hx) hk'
theorem RouteSettles : ∀ (a0_0 : Int) (a0_1 : Int) (a0_2 : Int) (a0_3 : Int) (a0_4 : Int) (a0_5 : Int) (a0_6 : Int) (a0_7 : Int) (a0_8 : Int) (a0_9 : Int) (a0_10 : Int) (a0_11 : Int) (l1 : List (Int)) (l2 : List (Bool)) (l3 : List (Int)), (Lit.int .i64 a0_0).wf = true → (Lit.int .i64 a0_1).wf = true → (Lit.int .i64 a0_2).wf = true → (Lit.int .i64 a0_3).wf = true → (Lit.int .i64 a0_4).wf = true → (Lit.int .i64 a0_5).wf = true → (Lit.int .i64 a0_6).wf = true → (Lit.int .i64 a0_7).wf = true → (Lit.int .i64 a0_8).wf = true → (Lit.int .i64 a0_9).wf = true → (Lit.int .i64 a0_10).wf = true → (Lit.int .i64 a0_11).wf = true → (l1.length ≤ maxLen ∧ l1.length * 8 ≤ 140737488351232 ∧ ∀ x0_ ∈ l1, (Lit.int .i64 x0_).wf = true) → (l2.length ≤ maxLen ∧ l2.length * 1 ≤ 140737488351232 ∧ ∀ x0_ ∈ l2, True) → (l3.length ≤ maxLen ∧ l3.length * 8 ≤ 140737488351232 ∧ ∀ x0_ ∈ l3, (Lit.int .i64 x0_).wf = true) → ∃ k, Go.Proofs.Ytaiggeogiolbnaa.K.clepsydralaw15_RouteSettles.f k a0_0 a0_1 a0_2 a0_3 a0_4 a0_5 a0_6 a0_7 a0_8 a0_9 a0_10 a0_11 l1 l2 l3 = some true := by
  intro b0 b1 D b3 b4 b5 b6 b7 b8 b9 b10 b11 l1 l2 l3 _ _ _ _ _ _ _ _ _ _ _ _ _ _ _
  obtain ⟨K, hK⟩ : ∃ K : Nat, 13500 ≤ K := ⟨_, Nat.le_refl _⟩
  refine ⟨K + 1, ?_⟩
  unfold clepsydralaw15_RouteSettles.f
  rw [alive_f _ (by omega), odd_f]
  simp only [Option.bind_some, if_true, decide_eq_true_eq]
  by_cases h : D < 0 ∨ D > 16
  · rw [if_pos h, clepsydralaw15_RouteSettles.j0, if_pos rfl]
  · rw [if_neg h]
    by_cases g : (l1.length : Int) > 12
    · rw [if_pos g, clepsydralaw15_RouteSettles.j0, if_pos rfl]
    · rw [if_neg g]
      by_cases g2 : (l2.length : Int) = (l1.length : Int)
      · rw [if_pos g2, clepsydralaw15_RouteSettles.j0]
        by_cases g3 : (l3.length : Int) = (l1.length : Int)
        · rw [if_neg (by simp [g3]), if_pos (by omega), if_pos (by omega)]
          simp only [Option.bind_some, Int.toNat_natCast]
          obtain ⟨n, hn⟩ : ∃ n, l1.length = n := ⟨_, rfl⟩
          have hrep : (List.replicate n ([] : List Bool)).length = n := List.length_replicate
          rw [hn, hrep]
          have hnn : n * (n + 3) ≤ 12 * 15 := Nat.mul_le_mul (by omega) (by omega)
          have hd : (D + 1).toNat * 600 ≤ 17 * 600 := Nat.mul_le_mul (by omega) (by omega)
          refine S_l0 b0 b1 D b3 b4 b5 b6 b7 b8 b9 b10 b11 n (by omega) l1 l3 l2 hn (by omega) ((D + 1).toNat * 600 + 2450) (fun M' hM' k' hk' => ?_) n _ 0 _ (by omega) (by omega) ⟨hrep, fun j hj => absurd hj (by omega)⟩ (by omega)
          exact S_l2 b0 b1 D b3 b4 b5 b6 b7 b8 b9 b10 b11 (by omega) (by omega) n (by omega) l2 (by omega) M' hM' (D + 1).toNat k' 0 l1 hn (by omega) (fun q => absurd q (by omega)) hk'
        · rw [if_pos (by simp; omega)]
      · rw [if_neg g2, clepsydralaw15_RouteSettles.j0, if_pos rfl]
end Go.Proofs.Ytaiggeogiolbnaa.Pure
