/- AnchorHolds: the pure statement. -/
import Derived.Test.YtaiggeogiolbnaaHh
import Derived.Test.YtaiggeogiolbnaaH17
namespace Go.Proofs.Ytaiggeogiolbnaa.Pure
open Go.RowKit Go.Proofs.Ytaiggeogiolbnaa.H Go.Proofs.YtaiggeogiolbnaaW.PrintWords Go.Proofs.YtaiggeogiolbnaaW.PrintLast Go.Proofs.YtaiggeogiolbnaaPl
open Go.Proofs.Ytaiggeogiolbnaa.So (srt least has srt_length)
/-- A span that a gateway that is right tells. -/
def hon (t v : Int) (s : S33) : Prop := s.f0 ≤ t ∧ t ≤ s.f1 ∧ s.f1 - s.f0 = v
theorem cnt_zero {α : Type} {p : α → Bool} {l : List α} (h : ∀ x, x ∈ l → ¬ p x = true) : l.countP p = 0 := List.countP_eq_zero.2 h
theorem least_cnt {f : Int} {l : List Int} (h0 : 0 ≤ f) (h1 : f < (l.length : Int)) : (l.countP (fun y => decide (y < least f l)) : Int) ≤ f := by
  have h : least f l = (srt l).getD f.toNat 0 := by unfold least; rw [if_pos ⟨h0, h1⟩]
  have := (srt_is l f.toNat (by omega) (least f l)).1 h.symm
  omega
theorem hon_fuse (F t v : Int) (z hs : List S33) (hF : 0 ≤ F) (hz : (z.length : Int) ≤ F) (hh : 2 * F + 1 ≤ (hs.length : Int)) (hs2 : ∀ s, s ∈ hs → hon t v s) (ht0 : -2305843009213693952 ≤ t) (ht1 : t ≤ 2305843009213693952) :
    ∃ lo hi, fuse F (z ++ hs) = (lo, hi, true) ∧ lo ≤ t ∧ t ≤ hi ∧ hi - lo ≤ v ∧ -2305843009213693952 ≤ lo ∧ hi ≤ 2305843009213693952 := by
  have hl : (z ++ hs).length = z.length + hs.length := List.length_append
  have n1 : (lows (z ++ hs)).length = z.length + hs.length := by unfold lows; rw [List.length_map, hl]
  have n2 : (highs (z ++ hs)).length = z.length + hs.length := by unfold highs; rw [List.length_map, hl]
  have c1 : ∀ x, (lows (z ++ hs)).countP (fun y => decide (y > x)) = z.countP (fun s => decide (s.f0 > x)) + hs.countP (fun s => decide (s.f0 > x)) := fun x => by unfold lows; rw [List.countP_map, List.countP_append]; rfl
  have c2 : ∀ x, (highs (z ++ hs)).countP (fun y => decide (y < x)) = z.countP (fun s => decide (s.f1 < x)) + hs.countP (fun s => decide (s.f1 < x)) := fun x => by unfold highs; rw [List.countP_map, List.countP_append]; rfl
  have a := most_le (f := F) (l := lows (z ++ hs)) hF (by omega) t (by
    rw [c1, cnt_zero (l := hs) (fun s hm => by have := (hs2 s hm).1; simp; omega)]
    have : z.countP (fun s => decide (s.f0 > t)) ≤ z.length := List.countP_le_length
    omega)
  have b := least_ge (f := F) (l := highs (z ++ hs)) hF (by omega) t (by
    rw [c2, cnt_zero (l := hs) (fun s hm => by have := (hs2 s hm).2.1; simp; omega)]
    have : z.countP (fun s => decide (s.f1 < t)) ≤ z.length := List.countP_le_length
    omega)
  have p := most_cnt (f := F) (l := lows (z ++ hs)) hF (by omega)
  have q := least_cnt (f := F) (l := highs (z ++ hs)) hF (by omega)
  rw [c1] at p
  rw [c2] at q
  generalize hlo : most F (lows (z ++ hs)) = lo at *
  generalize hhi : least F (highs (z ++ hs)) = hi at *
  have hw : ∃ s, s ∈ hs ∧ s.f0 ≤ lo ∧ hi ≤ s.f1 := by
    by_cases g : ∃ s, s ∈ hs ∧ s.f0 ≤ lo ∧ hi ≤ s.f1
    · exact g
    · have := cnt_or (l := hs) (p := fun _ => true) (q := fun s => decide (s.f0 > lo)) (r := fun s => decide (s.f1 < hi)) (fun s hm _ => by
        by_cases g1 : s.f0 > lo
        · exact .inl (decide_eq_true g1)
        · by_cases g2 : s.f1 < hi
          · exact .inr (decide_eq_true g2)
          · exact absurd ⟨s, hm, by omega, by omega⟩ g)
      have e : hs.countP (fun _ => true) = hs.length := by simp
      omega
  obtain ⟨s, hm, w1, w2⟩ := hw
  have w3 := (hs2 s hm).2.2
  have m1 := clip_mono a
  have m2 := clip_mono b
  rw [clip_id ht0 ht1] at m1 m2
  have m3 := clip_bd lo
  have m4 := clip_bd hi
  have hcl : clip hi - clip lo ≤ hi - lo := by unfold clip; repeat' split <;> omega
  refine ⟨clip lo, clip hi, ?_, m1, m2, by omega, by omega, by omega⟩
  unfold fuse fin
  rw [if_neg (by unfold few; simp; omega), hlo, hhi, if_neg (by omega)]
theorem AHolds_l0 (b0 F b2 b3 b4 b5 b6 b7 b8 b9 b10 b11 now : Int) (l : List S66) (z : List S33) (hB : Bnd F b3 b4 b5 b6 b7) (hn0 : -576460752303423488 ≤ now) (hn1 : now ≤ 576460752303423488) (hl : l.length ≤ 16) (hz : (z.length : Int) ≤ F) (h2 : 2 * F + 1 ≤ (l.length : Int)) : ∀ (d m : Nat) (i : Int) (hs : List S33), 0 ≤ i → i ≤ l.length → (l.length : Int) - i = d → hs.length = i.toNat → (∀ s, s ∈ hs → hon (now + b3) (2 * b7 + b6 + b4 * 2) s) →
    H.clepsydralaw16_AnchorHolds.l0 (m + 400 + 2 * d) now (z ++ hs) l (l.length : Int) i b0 F b2 b3 b4 b5 b6 b7 b8 b9 b10 b11 = some true := by
  have hB' := hB
  unfold Bnd at hB
  intro d
  induction d with
  | zero =>
    intro m i hs h0 h1 hd hhl hh
    have hlen : (z ++ hs).length = z.length + hs.length := List.length_append
    obtain ⟨lo, hi, e, q1, q2, q3, q4, q5⟩ := hon_fuse F (now + b3) (2 * b7 + b6 + b4 * 2) z hs (by omega) hz (by omega) hh (by omega) (by omega)
    have hH := Hop_f b0 F b2 b3 b4 b5 b6 b7 b8 b9 b10 b11 (m + 395) hB'
    rw [Nat.mul_zero, Nat.add_zero, H.clepsydralaw16_AnchorHolds.l0, if_neg (by omega), AFuse_f b0 F b2 b3 b4 b5 b6 b7 b8 b9 b10 b11 (z ++ hs) (by omega) _ (by omega), e, hH]
    simp only [bind_some_]
    rw [if_pos (by trivial), wrap_id (x := now + b3) (by omega) (by omega), if_pos q1, if_pos q2, wrap_id (x := hi - lo) (by omega) (by omega), wrap_id (x := 2 * b7) (by omega) (by omega), wrap_id (by omega) (by omega), decide_eq_true (by omega)]
  | succ d ih =>
    intro m i hs h0 h1 hd hhl hh
    have hlen : (z ++ hs).length = z.length + hs.length := List.length_append
    rw [show m + 400 + 2 * (d + 1) = (m + 400 + 2 * d) + 1 + 1 by omega, H.clepsydralaw16_AnchorHolds.l0, if_pos (by omega), if_pos h0, if_pos (by omega)]
    generalize rd_T66 l i = e
    have hj : H.clepsydralaw16_AnchorHolds.j2 (m + 400 + 2 * d + 1) now (z ++ hs) l (l.length : Int) i true b0 F b2 b3 b4 b5 b6 b7 b8 b9 b10 b11 e.f0 e.f1 e.f2 = some true := by rw [H.clepsydralaw16_AnchorHolds.j2, if_pos rfl]
    rw [wrap_id (x := -b7) (by omega) (by omega), wrap_id (x := b5 - b6) (by omega) (by omega), wrap_id (x := -b4) (by omega) (by omega)]
    by_cases g1 : e.f0 > b7
    · rw [if_pos g1, hj]
    rw [if_neg g1]
    by_cases g2 : e.f0 < -b7
    · rw [if_pos g2, hj]
    rw [if_neg g2]
    by_cases g3 : e.f1 > b5
    · rw [if_pos g3, hj]
    rw [if_neg g3]
    by_cases g4 : e.f1 < b5 - b6
    · rw [if_pos g4, hj]
    rw [if_neg g4]
    by_cases g5 : e.f2 > b4
    · rw [if_pos g5, hj]
    rw [if_neg g5]
    by_cases g6 : e.f2 < -b4
    · rw [decide_eq_true g6, hj]
    rw [decide_eq_false g6, H.clepsydralaw16_AnchorHolds.j2, if_neg (by simp)]
    have hS := Seen_f b0 F b2 b3 b4 b5 b6 b7 b8 b9 b10 b11 (now + e.f0) (m + 395 + 2 * d)
    have hW := Way_f b0 F b2 b3 b4 b5 b6 b7 b8 b9 b10 b11 (now + e.f0 - b7) (now + e.f0 + b7) (b3 - e.f1 + e.f2) (m + 394 + 2 * d) hB' (by omega) (by omega) (by omega) (by omega) (by omega) (by omega)
    rw [show m + 395 + 2 * d + 5 = m + 400 + 2 * d by omega] at hS
    rw [show m + 394 + 2 * d + 6 = m + 400 + 2 * d by omega] at hW
    have hsv : Go.Proofs.Ytaiggeogiolbnaa.H.seen b7 (now + e.f0) = (now + e.f0 - b7, now + e.f0 + b7, true) := by
      unfold Go.Proofs.Ytaiggeogiolbnaa.H.seen
      rw [if_neg (by omega), clip_id (x := now + e.f0) (by omega) (by omega), clip_id (x := b7) (by omega) (by omega), clip_id (by omega) (by omega), clip_id (by omega) (by omega)]
    rw [hsv] at hS
    rw [wrap_id (x := now + e.f0) (by omega) (by omega), wrap_id (x := b3 - e.f1) (by omega) (by omega), wrap_id (x := b3 - e.f1 + e.f2) (by omega) (by omega), hS, bind_some_, if_pos rfl, hW, bind_some_, if_pos (by omega), wrap_id (x := i + 1) (by omega) (by omega), List.append_assoc]
    refine ih m (i + 1) _ (by omega) (by omega) (by omega) (by rw [List.length_append, hhl, List.length_singleton]; omega) (fun s hm => ?_)
    rcases List.mem_append.1 hm with hm | hm
    · exact hh s hm
    · rw [List.mem_singleton.1 hm]
      unfold hon
      exact ⟨by show now + e.f0 - b7 + _ ≤ _; omega, by show _ ≤ now + e.f0 + b7 + _; omega, by show now + e.f0 + b7 + _ - (now + e.f0 - b7 + _) = _; omega⟩
theorem AnchorHolds : ∀ (a0_0 : Int) (a0_1 : Int) (a0_2 : Int) (a0_3 : Int) (a0_4 : Int) (a0_5 : Int) (a0_6 : Int) (a0_7 : Int) (a0_8 : Int) (a0_9 : Int) (a0_10 : Int) (a0_11 : Int) (a1 : Int) (l2 : List (Go.Proofs.Ytaiggeogiolbnaa.H.S66)) (l3 : List (Go.Proofs.Ytaiggeogiolbnaa.H.S33)), (Lit.int .i64 a0_0).wf = true → (Lit.int .i64 a0_1).wf = true → (Lit.int .i64 a0_2).wf = true → (Lit.int .i64 a0_3).wf = true → (Lit.int .i64 a0_4).wf = true → (Lit.int .i64 a0_5).wf = true → (Lit.int .i64 a0_6).wf = true → (Lit.int .i64 a0_7).wf = true → (Lit.int .i64 a0_8).wf = true → (Lit.int .i64 a0_9).wf = true → (Lit.int .i64 a0_10).wf = true → (Lit.int .i64 a0_11).wf = true → (Lit.int .i64 a1).wf = true → (l2.length ≤ maxLen ∧ l2.length * 24 ≤ 140737488351232 ∧ ∀ x0_ ∈ l2, ((Lit.int .i64 x0_.f0).wf = true ∧ (Lit.int .i64 x0_.f1).wf = true ∧ (Lit.int .i64 x0_.f2).wf = true)) → (l3.length ≤ maxLen ∧ l3.length * 16 ≤ 140737488351232 ∧ ∀ x0_ ∈ l3, ((Lit.int .i64 x0_.f0).wf = true ∧ (Lit.int .i64 x0_.f1).wf = true)) → ∃ k, Go.Proofs.Ytaiggeogiolbnaa.H.clepsydralaw16_AnchorHolds.f k a0_0 a0_1 a0_2 a0_3 a0_4 a0_5 a0_6 a0_7 a0_8 a0_9 a0_10 a0_11 a1 l2 l3 = some true := by
  intro b0 F b2 b3 b4 b5 b6 b7 b8 b9 b10 b11 now l z _ _ _ _ _ _ _ _ _ _ _ _ _ _ _
  refine ⟨0 + 400 + 2 * l.length + 1, ?_⟩
  unfold H.clepsydralaw16_AnchorHolds.f
  have hj : H.clepsydralaw16_AnchorHolds.j0 (0 + 400 + 2 * l.length + 1) now l z true b0 F b2 b3 b4 b5 b6 b7 b8 b9 b10 b11 = some true := by rw [H.clepsydralaw16_AnchorHolds.j0, if_pos rfl]
  obtain ⟨c, hc, hB⟩ := Check_f (0 + 399 + 2 * l.length) b0 F b2 b3 b4 b5 b6 b7 b8 b9 b10 b11
  rw [show 0 + 399 + 2 * l.length + 2 = 0 + 400 + 2 * l.length + 1 by omega] at hc
  rw [alive16_f _ (by omega), bind_true, if_pos rfl, hc, bind_some_]
  by_cases g : c = 0
  · have hB := hB g
    have hB' := hB
    unfold Bnd at hB'
    rw [if_pos g]
    by_cases g1 : now > 576460752303423488
    · rw [if_pos g1, hj]
    rw [if_neg g1]
    by_cases g2 : now < -576460752303423488
    · rw [if_pos g2, hj]
    rw [if_neg g2]
    by_cases g3 : (l.length : Int) > 16
    · rw [if_pos g3, hj]
    rw [if_neg g3]
    by_cases g4 : (z.length : Int) > F
    · rw [if_pos g4, hj]
    rw [if_neg g4, wrap_id (x := 2 * F) (by omega) (by omega), wrap_id (by omega) (by omega)]
    by_cases g5 : (l.length : Int) < 2 * F + 1
    · rw [decide_eq_true g5, hj]
    rw [decide_eq_false g5, H.clepsydralaw16_AnchorHolds.j0, if_neg (by simp), bind_some_, if_pos (by simp; omega)]
    have h := AHolds_l0 b0 F b2 b3 b4 b5 b6 b7 b8 b9 b10 b11 now l z hB (by omega) (by omega) (by omega) (by omega) (by omega) l.length 0 0 [] (by omega) (by omega) (by omega) rfl (fun s hs => by simp at hs)
    rw [List.append_nil] at h
    rw [List.nil_append]
    exact h
  · rw [if_neg g, hj]
end Go.Proofs.Ytaiggeogiolbnaa.Pure
