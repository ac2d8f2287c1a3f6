/- PulseNear: times not further from one another than a pulse: the walk. -/
import Derived.Test.YtdnddekoankmmaaVp
import Derived.Test.YtdnddekoankmmaaEw
namespace Go.Proofs.Ytdnddekoankmmaa.V
open Go.RowKit Go.Proofs.YtdnddekoankmmaaW.PrintWords Go.Proofs.YtdnddekoankmmaaW.PrintLast Go.Proofs.YtdnddekoankmmaaW.PrintMore Go.Proofs.YtdnddekoankmmaaPl Go.Proofs.YtdnddekoankmmaaEv
set_option maxHeartbeats 4000000 in
set_option maxRecDepth 100000 in
theorem clepsydralaw13_PulseNear.calls (b0 b1 b2 b3 b4 b5 b6 b7 b8 b9 pu b11 a b : Int) (w : World) :
    Calls Try.prog 6 #[.agg #[.int .i64 b0, .int .i64 b1, .int .i64 b2, .int .i64 b3, .int .i64 b4, .int .i64 b5, .int .i64 b6, .int .i64 b7, .int .i64 b8, .int .i64 b9, .int .i64 pu, .int .i64 b11], .int .i64 a, .int .i64 b] w fun e w' => e = .returned (.bool true) ∧ Below w.heap.size w w' := by
  have H := Fr.start (A := fun _ => False) (w := w) (p := fun _ => True) (fun _ h => h.elim) (Tr.true _ _)
  go_enter Try.func6, Try.ntmps6
  obtain ⟨v, hv⟩ : ∃ v, wrap64 (b - a) = v := ⟨_, rfl⟩
  have hv2 : b ≤ 1152921504606846976 → -1152921504606846976 ≤ a → a ≤ 1152921504606846976 → a ≤ b → v = b - a := fun q1 q2 q3 q4 => by rw [← hv]; exact wrap_id (by omega) (by omega)
  by_cases g0 : pu < 1
  · have g0' := g0
    have f0_0 : decide (pu < 1) = true := decide_eq_true (by omega)
    clear g0 g0'
    go_wp2_with (first
      | ((with_reducible refine gate_dst (N := 3) rfl ?_); refine fr_box H rfl rfl rfl ?_; intro g3 w3 H1; clear H; have H := H1; clear H1)
      | ((with_reducible refine gate_dst (N := 13) rfl ?_); refine fr_get H rfl rfl rfl (by repeat (first | exact At.head | apply At.tail)) Try.underlying3 rfl (by simp only [List.getElem?_toArray, List.getElem?_cons_succ, List.getElem?_cons_zero]; rfl) ?_)
      | ((with_reducible refine gate_dst (N := 33) rfl ?_); (try (refine gate_guard (by rfl) ?_; dsimp only)); refine fr_get H rfl rfl rfl (by repeat (first | exact At.head | apply At.tail)) Try.underlying3 rfl (by simp only [List.getElem?_toArray, List.getElem?_cons_succ, List.getElem?_cons_zero]; rfl) ?_)
      | ((with_reducible refine gate_dst (N := 40) rfl ?_); refine fr_load H rfl rfl rfl (by repeat (first | exact At.head | apply At.tail)) Try.underlying28 rfl (by kernel_rfl) ?_)
      | ((with_reducible refine gate_dst (N := 43) rfl ?_); refine fr_load H rfl rfl rfl (by repeat (first | exact At.head | apply At.tail)) Try.underlying28 rfl (by kernel_rfl) ?_)
      | ((with_reducible refine gate_dst (N := 46) rfl ?_); refine fr_load H rfl rfl rfl (by repeat (first | exact At.head | apply At.tail)) Try.underlying28 rfl (by kernel_rfl) ?_)
      | ((with_reducible refine gate_dst (N := 81) rfl ?_); (try (refine gate_guard (by rfl) ?_; dsimp only)); refine fr_load H rfl rfl rfl (by repeat (first | exact At.head | apply At.tail)) Try.underlying28 rfl (by kernel_rfl) ?_)
      | ((with_reducible refine gate_dst (N := 84) rfl ?_); (try (refine gate_guard (by rfl) ?_; dsimp only)); refine fr_load H rfl rfl rfl (by repeat (first | exact At.head | apply At.tail)) Try.underlying28 rfl (by kernel_rfl) ?_)
      | (go_at_call 17; (with_reducible refine (clepsydralaw13_alive.calls 60 true _ (alive13_f 60 (by omega))).mono ?_); rintro e w' ⟨rfl, hb⟩; have H1 := H.call hb; clear hb; clear H; have H := H1; clear H1))
    go_ret
    exact ⟨rfl, H.below⟩
  have f0_0 : decide (pu < 1) = false := decide_eq_false (by omega)
  by_cases g1 : a > 1152921504606846976
  · have g1' := g1
    have f1_0 : decide (a > 1152921504606846976) = true := decide_eq_true (by omega)
    have f1_1 : decide ((1152921504606846976 : Int) < a) = true := decide_eq_true (by omega)
    clear g0 g1 g1'
    go_wp2_with (first
      | ((with_reducible refine gate_dst (N := 3) rfl ?_); refine fr_box H rfl rfl rfl ?_; intro g3 w3 H1; clear H; have H := H1; clear H1)
      | ((with_reducible refine gate_dst (N := 13) rfl ?_); refine fr_get H rfl rfl rfl (by repeat (first | exact At.head | apply At.tail)) Try.underlying3 rfl (by simp only [List.getElem?_toArray, List.getElem?_cons_succ, List.getElem?_cons_zero]; rfl) ?_)
      | ((with_reducible refine gate_dst (N := 33) rfl ?_); (try (refine gate_guard (by rfl) ?_; dsimp only)); refine fr_get H rfl rfl rfl (by repeat (first | exact At.head | apply At.tail)) Try.underlying3 rfl (by simp only [List.getElem?_toArray, List.getElem?_cons_succ, List.getElem?_cons_zero]; rfl) ?_)
      | ((with_reducible refine gate_dst (N := 40) rfl ?_); refine fr_load H rfl rfl rfl (by repeat (first | exact At.head | apply At.tail)) Try.underlying28 rfl (by kernel_rfl) ?_)
      | ((with_reducible refine gate_dst (N := 43) rfl ?_); refine fr_load H rfl rfl rfl (by repeat (first | exact At.head | apply At.tail)) Try.underlying28 rfl (by kernel_rfl) ?_)
      | ((with_reducible refine gate_dst (N := 46) rfl ?_); refine fr_load H rfl rfl rfl (by repeat (first | exact At.head | apply At.tail)) Try.underlying28 rfl (by kernel_rfl) ?_)
      | ((with_reducible refine gate_dst (N := 81) rfl ?_); (try (refine gate_guard (by rfl) ?_; dsimp only)); refine fr_load H rfl rfl rfl (by repeat (first | exact At.head | apply At.tail)) Try.underlying28 rfl (by kernel_rfl) ?_)
      | ((with_reducible refine gate_dst (N := 84) rfl ?_); (try (refine gate_guard (by rfl) ?_; dsimp only)); refine fr_load H rfl rfl rfl (by repeat (first | exact At.head | apply At.tail)) Try.underlying28 rfl (by kernel_rfl) ?_)
      | (go_at_call 17; (with_reducible refine (clepsydralaw13_alive.calls 60 true _ (alive13_f 60 (by omega))).mono ?_); rintro e w' ⟨rfl, hb⟩; have H1 := H.call hb; clear hb; clear H; have H := H1; clear H1))
    go_ret
    exact ⟨rfl, H.below⟩
  have f1_0 : decide (a > 1152921504606846976) = false := decide_eq_false (by omega)
  have f1_1 : decide ((1152921504606846976 : Int) < a) = false := decide_eq_false (by omega)
  by_cases g2 : a < -1152921504606846976
  · have g2' := g2
    have f2_0 : decide (a < -1152921504606846976) = true := decide_eq_true (by omega)
    clear g0 g1 g2 g2'
    go_wp2_with (first
      | ((with_reducible refine gate_dst (N := 3) rfl ?_); refine fr_box H rfl rfl rfl ?_; intro g3 w3 H1; clear H; have H := H1; clear H1)
      | ((with_reducible refine gate_dst (N := 13) rfl ?_); refine fr_get H rfl rfl rfl (by repeat (first | exact At.head | apply At.tail)) Try.underlying3 rfl (by simp only [List.getElem?_toArray, List.getElem?_cons_succ, List.getElem?_cons_zero]; rfl) ?_)
      | ((with_reducible refine gate_dst (N := 33) rfl ?_); (try (refine gate_guard (by rfl) ?_; dsimp only)); refine fr_get H rfl rfl rfl (by repeat (first | exact At.head | apply At.tail)) Try.underlying3 rfl (by simp only [List.getElem?_toArray, List.getElem?_cons_succ, List.getElem?_cons_zero]; rfl) ?_)
      | ((with_reducible refine gate_dst (N := 40) rfl ?_); refine fr_load H rfl rfl rfl (by repeat (first | exact At.head | apply At.tail)) Try.underlying28 rfl (by kernel_rfl) ?_)
      | ((with_reducible refine gate_dst (N := 43) rfl ?_); refine fr_load H rfl rfl rfl (by repeat (first | exact At.head | apply At.tail)) Try.underlying28 rfl (by kernel_rfl) ?_)
      | ((with_reducible refine gate_dst (N := 46) rfl ?_); refine fr_load H rfl rfl rfl (by repeat (first | exact At.head | apply At.tail)) Try.underlying28 rfl (by kernel_rfl) ?_)
      | ((with_reducible refine gate_dst (N := 81) rfl ?_); (try (refine gate_guard (by rfl) ?_; dsimp only)); refine fr_load H rfl rfl rfl (by repeat (first | exact At.head | apply At.tail)) Try.underlying28 rfl (by kernel_rfl) ?_)
      | ((with_reducible refine gate_dst (N := 84) rfl ?_); (try (refine gate_guard (by rfl) ?_; dsimp only)); refine fr_load H rfl rfl rfl (by repeat (first | exact At.head | apply At.tail)) Try.underlying28 rfl (by kernel_rfl) ?_)
      | (go_at_call 17; (with_reducible refine (clepsydralaw13_alive.calls 60 true _ (alive13_f 60 (by omega))).mono ?_); rintro e w' ⟨rfl, hb⟩; have H1 := H.call hb; clear hb; clear H; have H := H1; clear H1))
    go_ret
    exact ⟨rfl, H.below⟩
  have f2_0 : decide (a < -1152921504606846976) = false := decide_eq_false (by omega)
  by_cases g3 : b < a
  · have g3' := g3
    have f3_0 : decide (b < a) = true := decide_eq_true (by omega)
    clear g0 g1 g2 g3 g3'
    go_wp2_with (first
      | ((with_reducible refine gate_dst (N := 3) rfl ?_); refine fr_box H rfl rfl rfl ?_; intro g3 w3 H1; clear H; have H := H1; clear H1)
      | ((with_reducible refine gate_dst (N := 13) rfl ?_); refine fr_get H rfl rfl rfl (by repeat (first | exact At.head | apply At.tail)) Try.underlying3 rfl (by simp only [List.getElem?_toArray, List.getElem?_cons_succ, List.getElem?_cons_zero]; rfl) ?_)
      | ((with_reducible refine gate_dst (N := 33) rfl ?_); (try (refine gate_guard (by rfl) ?_; dsimp only)); refine fr_get H rfl rfl rfl (by repeat (first | exact At.head | apply At.tail)) Try.underlying3 rfl (by simp only [List.getElem?_toArray, List.getElem?_cons_succ, List.getElem?_cons_zero]; rfl) ?_)
      | ((with_reducible refine gate_dst (N := 40) rfl ?_); refine fr_load H rfl rfl rfl (by repeat (first | exact At.head | apply At.tail)) Try.underlying28 rfl (by kernel_rfl) ?_)
      | ((with_reducible refine gate_dst (N := 43) rfl ?_); refine fr_load H rfl rfl rfl (by repeat (first | exact At.head | apply At.tail)) Try.underlying28 rfl (by kernel_rfl) ?_)
      | ((with_reducible refine gate_dst (N := 46) rfl ?_); refine fr_load H rfl rfl rfl (by repeat (first | exact At.head | apply At.tail)) Try.underlying28 rfl (by kernel_rfl) ?_)
      | ((with_reducible refine gate_dst (N := 81) rfl ?_); (try (refine gate_guard (by rfl) ?_; dsimp only)); refine fr_load H rfl rfl rfl (by repeat (first | exact At.head | apply At.tail)) Try.underlying28 rfl (by kernel_rfl) ?_)
      | ((with_reducible refine gate_dst (N := 84) rfl ?_); (try (refine gate_guard (by rfl) ?_; dsimp only)); refine fr_load H rfl rfl rfl (by repeat (first | exact At.head | apply At.tail)) Try.underlying28 rfl (by kernel_rfl) ?_)
      | (go_at_call 17; (with_reducible refine (clepsydralaw13_alive.calls 60 true _ (alive13_f 60 (by omega))).mono ?_); rintro e w' ⟨rfl, hb⟩; have H1 := H.call hb; clear hb; clear H; have H := H1; clear H1))
    go_ret
    exact ⟨rfl, H.below⟩
  have f3_0 : decide (b < a) = false := decide_eq_false (by omega)
  by_cases g4 : v > pu
  · have g4' := g4
    have f4_0 : decide (v > pu) = true := decide_eq_true (by omega)
    have f4_1 : decide (pu < v) = true := decide_eq_true (by omega)
    clear g0 g1 g2 g3 g4 g4'
    go_wp2_with (first
      | ((with_reducible refine gate_dst (N := 3) rfl ?_); refine fr_box H rfl rfl rfl ?_; intro g3 w3 H1; clear H; have H := H1; clear H1)
      | ((with_reducible refine gate_dst (N := 13) rfl ?_); refine fr_get H rfl rfl rfl (by repeat (first | exact At.head | apply At.tail)) Try.underlying3 rfl (by simp only [List.getElem?_toArray, List.getElem?_cons_succ, List.getElem?_cons_zero]; rfl) ?_)
      | ((with_reducible refine gate_dst (N := 33) rfl ?_); (try (refine gate_guard (by rfl) ?_; dsimp only)); refine fr_get H rfl rfl rfl (by repeat (first | exact At.head | apply At.tail)) Try.underlying3 rfl (by simp only [List.getElem?_toArray, List.getElem?_cons_succ, List.getElem?_cons_zero]; rfl) ?_)
      | ((with_reducible refine gate_dst (N := 40) rfl ?_); refine fr_load H rfl rfl rfl (by repeat (first | exact At.head | apply At.tail)) Try.underlying28 rfl (by kernel_rfl) ?_)
      | ((with_reducible refine gate_dst (N := 43) rfl ?_); refine fr_load H rfl rfl rfl (by repeat (first | exact At.head | apply At.tail)) Try.underlying28 rfl (by kernel_rfl) ?_)
      | ((with_reducible refine gate_dst (N := 46) rfl ?_); refine fr_load H rfl rfl rfl (by repeat (first | exact At.head | apply At.tail)) Try.underlying28 rfl (by kernel_rfl) ?_)
      | ((with_reducible refine gate_dst (N := 81) rfl ?_); (try (refine gate_guard (by rfl) ?_; dsimp only)); refine fr_load H rfl rfl rfl (by repeat (first | exact At.head | apply At.tail)) Try.underlying28 rfl (by kernel_rfl) ?_)
      | ((with_reducible refine gate_dst (N := 84) rfl ?_); (try (refine gate_guard (by rfl) ?_; dsimp only)); refine fr_load H rfl rfl rfl (by repeat (first | exact At.head | apply At.tail)) Try.underlying28 rfl (by kernel_rfl) ?_)
      | (go_at_call 17; (with_reducible refine (clepsydralaw13_alive.calls 60 true _ (alive13_f 60 (by omega))).mono ?_); rintro e w' ⟨rfl, hb⟩; have H1 := H.call hb; clear hb; clear H; have H := H1; clear H1))
    go_ret
    exact ⟨rfl, H.below⟩
  have f4_0 : decide (v > pu) = false := decide_eq_false (by omega)
  have f4_1 : decide (pu < v) = false := decide_eq_false (by omega)
  by_cases g5 : b > 1152921504606846976
  · have g5' := g5
    have f5_0 : decide (b > 1152921504606846976) = true := decide_eq_true (by omega)
    have f5_1 : decide ((1152921504606846976 : Int) < b) = true := decide_eq_true (by omega)
    clear g0 g1 g2 g3 g4 g5 g5'
    go_wp2_with (first
      | ((with_reducible refine gate_dst (N := 3) rfl ?_); refine fr_box H rfl rfl rfl ?_; intro g3 w3 H1; clear H; have H := H1; clear H1)
      | ((with_reducible refine gate_dst (N := 13) rfl ?_); refine fr_get H rfl rfl rfl (by repeat (first | exact At.head | apply At.tail)) Try.underlying3 rfl (by simp only [List.getElem?_toArray, List.getElem?_cons_succ, List.getElem?_cons_zero]; rfl) ?_)
      | ((with_reducible refine gate_dst (N := 33) rfl ?_); (try (refine gate_guard (by rfl) ?_; dsimp only)); refine fr_get H rfl rfl rfl (by repeat (first | exact At.head | apply At.tail)) Try.underlying3 rfl (by simp only [List.getElem?_toArray, List.getElem?_cons_succ, List.getElem?_cons_zero]; rfl) ?_)
      | ((with_reducible refine gate_dst (N := 40) rfl ?_); refine fr_load H rfl rfl rfl (by repeat (first | exact At.head | apply At.tail)) Try.underlying28 rfl (by kernel_rfl) ?_)
      | ((with_reducible refine gate_dst (N := 43) rfl ?_); refine fr_load H rfl rfl rfl (by repeat (first | exact At.head | apply At.tail)) Try.underlying28 rfl (by kernel_rfl) ?_)
      | ((with_reducible refine gate_dst (N := 46) rfl ?_); refine fr_load H rfl rfl rfl (by repeat (first | exact At.head | apply At.tail)) Try.underlying28 rfl (by kernel_rfl) ?_)
      | ((with_reducible refine gate_dst (N := 81) rfl ?_); (try (refine gate_guard (by rfl) ?_; dsimp only)); refine fr_load H rfl rfl rfl (by repeat (first | exact At.head | apply At.tail)) Try.underlying28 rfl (by kernel_rfl) ?_)
      | ((with_reducible refine gate_dst (N := 84) rfl ?_); (try (refine gate_guard (by rfl) ?_; dsimp only)); refine fr_load H rfl rfl rfl (by repeat (first | exact At.head | apply At.tail)) Try.underlying28 rfl (by kernel_rfl) ?_)
      | (go_at_call 17; (with_reducible refine (clepsydralaw13_alive.calls 60 true _ (alive13_f 60 (by omega))).mono ?_); rintro e w' ⟨rfl, hb⟩; have H1 := H.call hb; clear hb; clear H; have H := H1; clear H1))
    go_ret
    exact ⟨rfl, H.below⟩
  have f5_0 : decide (b > 1152921504606846976) = false := decide_eq_false (by omega)
  have f5_1 : decide ((1152921504606846976 : Int) < b) = false := decide_eq_false (by omega)
  obtain ⟨n1, n2, n3, n4, n5⟩ := near_facts (a := a) (b := b) (pu := pu) (by omega) (by omega) (by omega) (by omega) (by omega)
  have hXN := pulse_Number_f 0 b0 b1 b2 b3 b4 b5 b6 b7 b8 b9 pu b11 a
  have hYN := pulse_Number_f 0 b0 b1 b2 b3 b4 b5 b6 b7 b8 b9 pu b11 b
  have hF := pulse_Fired_f 1040 b0 b1 b2 b3 b4 b5 b6 b7 b8 b9 pu b11 a b 5 (by omega) (by omega)
  have bx := dv_bd a pu
  have hB := Begin_f 0 b0 b1 b2 b3 b4 b5 b6 b7 b8 b9 pu b11 (dv a pu) (by omega) bx.1 bx.2 n4 n5
  have hP := Phase_f 0 b0 b1 b2 b3 b4 b5 b6 b7 b8 b9 pu b11 a
  obtain ⟨x, hx⟩ : ∃ x, dv a pu = x := ⟨_, rfl⟩
  obtain ⟨y, hy⟩ : ∃ y, dv b pu = y := ⟨_, rfl⟩
  obtain ⟨m, hm⟩ : ∃ m, md a pu = m := ⟨_, rfl⟩
  rw [hx] at hXN hF hB n1 n2 n3 n4 n5 bx
  rw [hy] at hYN hF n1 n2
  rw [hm] at hP n3
  obtain ⟨s, hs⟩ : ∃ s, Go.Proofs.YtdnddekoankmmaaPl.one pu * x = s := ⟨_, rfl⟩
  rw [hs] at hB n3 n4 n5
  have hsm : IntKind.i64.wrap (s + m) = a := by
    rw [n3]
    exact IntWalk.i64_in _ (by omega)
  have HXN := Lib.hid hXN
  have HYN := Lib.hid hYN
  have HB := Lib.hid hB
  have HP := Lib.hid hP
  clear hXN hYN hB hP hx hy hm hs hv2
  clear g0 g1 g2 g3 g4 g5
  have hcase : y = x ∨ y = x + 1 := by omega
  rcases hcase with rfl | rfl
  · have hF2 : pulse_Fired.f 1040 b0 b1 b2 b3 b4 b5 b6 b7 b8 b9 pu b11 a b 5 = some [] := by
      rw [hF, show (min (y - y) 5).toNat = 0 by omega]
      rfl
    have HF := Lib.hid hF2
    have hw : IntKind.i64.wrap (y - y) = 0 := by rw [Int.sub_self]; decide
    clear hF hF2 n1 n2 n3 n4 n5 bx
    go_wp2_with (first
      | ((with_reducible refine gate_dst (N := 3) rfl ?_); refine fr_box H rfl rfl rfl ?_; intro g3 w3 H1; clear H; have H := H1; clear H1)
      | ((with_reducible refine gate_dst (N := 13) rfl ?_); refine fr_get H rfl rfl rfl (by repeat (first | exact At.head | apply At.tail)) Try.underlying3 rfl (by simp only [List.getElem?_toArray, List.getElem?_cons_succ, List.getElem?_cons_zero]; rfl) ?_)
      | ((with_reducible refine gate_dst (N := 33) rfl ?_); (try (refine gate_guard (by rfl) ?_; dsimp only)); refine fr_get H rfl rfl rfl (by repeat (first | exact At.head | apply At.tail)) Try.underlying3 rfl (by simp only [List.getElem?_toArray, List.getElem?_cons_succ, List.getElem?_cons_zero]; rfl) ?_)
      | ((with_reducible refine gate_dst (N := 40) rfl ?_); refine fr_load H rfl rfl rfl (by repeat (first | exact At.head | apply At.tail)) Try.underlying28 rfl (by kernel_rfl) ?_)
      | ((with_reducible refine gate_dst (N := 43) rfl ?_); refine fr_load H rfl rfl rfl (by repeat (first | exact At.head | apply At.tail)) Try.underlying28 rfl (by kernel_rfl) ?_)
      | ((with_reducible refine gate_dst (N := 46) rfl ?_); refine fr_load H rfl rfl rfl (by repeat (first | exact At.head | apply At.tail)) Try.underlying28 rfl (by kernel_rfl) ?_)
      | ((with_reducible refine gate_dst (N := 81) rfl ?_); (try (refine gate_guard (by rfl) ?_; dsimp only)); refine fr_load H rfl rfl rfl (by repeat (first | exact At.head | apply At.tail)) Try.underlying28 rfl (by kernel_rfl) ?_)
      | ((with_reducible refine gate_dst (N := 84) rfl ?_); (try (refine gate_guard (by rfl) ?_; dsimp only)); refine fr_load H rfl rfl rfl (by repeat (first | exact At.head | apply At.tail)) Try.underlying28 rfl (by kernel_rfl) ?_)
      | (go_at_call 17; (with_reducible refine (clepsydralaw13_alive.calls 60 true _ (alive13_f 60 (by omega))).mono ?_); rintro e w' ⟨rfl, hb⟩; have H1 := H.call hb; clear hb; clear H; have H := H1; clear H1))
    refine fr_region H (by kernel_rfl) (by kernel_rfl) ?_
    clear H
    repeat (first
      | go_big_quiet_skip
      | ((with_reducible refine qg_move rfl ?_); go_big_quiet_want; go_big_quiet_op; go_big_quiet_on)
      | ((with_reducible refine qg_assign rfl ?_); go_big_quiet_want; go_big_quiet_op; go_big_quiet_on)
      | ((with_reducible refine qg_load rfl ?_); first | (refine q_load (by rfl) rfl rfl (by (repeat (first | exact At.head | apply At.tail)); done) (by first | exact Try.underlying28 | exact Try.underlying3) (by rfl) (by kernel_rfl) ?_; simp only [Act.put, List.setIfInBounds_toArray, List.set_cons_zero, List.set_cons_succ]) | (refine q_get (by rfl) rfl rfl (by (repeat (first | exact At.head | apply At.tail)); done) (by first | exact Try.underlying28 | exact Try.underlying3) (by rfl) (by simp only [List.getElem?_toArray, List.getElem?_cons_succ, List.getElem?_cons_zero]; rfl) ?_; simp only [Act.put, List.setIfInBounds_toArray, List.set_cons_zero, List.set_cons_succ]) | (refine q_sub2 (by rfl) rfl rfl (by (repeat (first | exact At.head | apply At.tail)); done) (by first | exact Try.underlying28 | exact Try.underlying3) (by rfl) (by kernel_rfl) (by simp only [List.getElem?_toArray, List.getElem?_cons_succ, List.getElem?_cons_zero]; rfl) (by simp only [List.getElem?_toArray, List.getElem?_cons_succ, List.getElem?_cons_zero]; rfl) ?_; simp only [Act.put, List.setIfInBounds_toArray, List.set_cons_zero, List.set_cons_succ]))
      | ((with_reducible refine qg_call (f := 21) rfl ?_); refine q_call (by rfl) (f := 21) (args := #[.agg #[.int .i64 b0, .int .i64 b1, .int .i64 b2, .int .i64 b3, .int .i64 b4, .int .i64 b5, .int .i64 b6, .int .i64 b7, .int .i64 b8, .int .i64 b9, .int .i64 pu, .int .i64 b11], .int .i64 a]) (fun W => by first | (go_simp; done) | (go_simp; rfl)) (fun W H => pulse_Number.calls 1 b0 b1 b2 b3 b4 b5 b6 b7 b8 b9 pu b11 a y W HXN.out) ?_; simp only [Act.put, List.setIfInBounds_toArray, List.set_cons_zero, List.set_cons_succ])
      | ((with_reducible refine qg_call (f := 21) rfl ?_); refine q_call (by rfl) (f := 21) (args := #[.agg #[.int .i64 b0, .int .i64 b1, .int .i64 b2, .int .i64 b3, .int .i64 b4, .int .i64 b5, .int .i64 b6, .int .i64 b7, .int .i64 b8, .int .i64 b9, .int .i64 pu, .int .i64 b11], .int .i64 b]) (fun W => by first | (go_simp; done) | (go_simp; rfl)) (fun W H => pulse_Number.calls 1 b0 b1 b2 b3 b4 b5 b6 b7 b8 b9 pu b11 b y W HYN.out) ?_; simp only [Act.put, List.setIfInBounds_toArray, List.set_cons_zero, List.set_cons_succ])
      | (refine q_pureK (by rfl) (fun W K hK => by go_simp; exact hK.out) ?_; simp only [Act.put, List.setIfInBounds_toArray, List.set_cons_zero, List.set_cons_succ]))
    refine q_end ?_
    intro W1 H
    go_wp2_with (first
      | ((with_reducible refine gate_dst (N := 3) rfl ?_); refine fr_box H rfl rfl rfl ?_; intro g3 w3 H1; clear H; have H := H1; clear H1)
      | ((with_reducible refine gate_dst (N := 13) rfl ?_); refine fr_get H rfl rfl rfl (by repeat (first | exact At.head | apply At.tail)) Try.underlying3 rfl (by simp only [List.getElem?_toArray, List.getElem?_cons_succ, List.getElem?_cons_zero]; rfl) ?_)
      | ((with_reducible refine gate_dst (N := 33) rfl ?_); (try (refine gate_guard (by rfl) ?_; dsimp only)); refine fr_get H rfl rfl rfl (by repeat (first | exact At.head | apply At.tail)) Try.underlying3 rfl (by simp only [List.getElem?_toArray, List.getElem?_cons_succ, List.getElem?_cons_zero]; rfl) ?_)
      | ((with_reducible refine gate_dst (N := 40) rfl ?_); refine fr_load H rfl rfl rfl (by repeat (first | exact At.head | apply At.tail)) Try.underlying28 rfl (by kernel_rfl) ?_)
      | ((with_reducible refine gate_dst (N := 43) rfl ?_); refine fr_load H rfl rfl rfl (by repeat (first | exact At.head | apply At.tail)) Try.underlying28 rfl (by kernel_rfl) ?_)
      | ((with_reducible refine gate_dst (N := 46) rfl ?_); refine fr_load H rfl rfl rfl (by repeat (first | exact At.head | apply At.tail)) Try.underlying28 rfl (by kernel_rfl) ?_)
      | ((with_reducible refine gate_dst (N := 81) rfl ?_); (try (refine gate_guard (by rfl) ?_; dsimp only)); refine fr_load H rfl rfl rfl (by repeat (first | exact At.head | apply At.tail)) Try.underlying28 rfl (by kernel_rfl) ?_)
      | ((with_reducible refine gate_dst (N := 84) rfl ?_); (try (refine gate_guard (by rfl) ?_; dsimp only)); refine fr_load H rfl rfl rfl (by repeat (first | exact At.head | apply At.tail)) Try.underlying28 rfl (by kernel_rfl) ?_)
      | (go_at_call 19; (with_reducible refine (pulse_Fired.calls 1040 b0 b1 b2 b3 b4 b5 b6 b7 b8 b9 pu b11 a b 5 [] _ HF.out).mono ?_); rintro e w' ⟨v0, rfl, hR, hb⟩; obtain ⟨A1, c1, rfl, hc1, H1⟩ := H.callR hb hR; clear hb hR; clear H; have H := H1; clear H1))
    refine fr_region H (by kernel_rfl) (by kernel_rfl) ?_
    clear H
    repeat (first
      | go_big_quiet_skip
      | ((with_reducible refine qg_move rfl ?_); go_big_quiet_want; go_big_quiet_op; go_big_quiet_on)
      | ((with_reducible refine qg_assign rfl ?_); go_big_quiet_want; go_big_quiet_op; go_big_quiet_on)
      | ((with_reducible refine qg_load rfl ?_); first | (refine q_load (by rfl) rfl rfl (by (repeat (first | exact At.head | apply At.tail)); done) (by first | exact Try.underlying28 | exact Try.underlying3) (by rfl) (by kernel_rfl) ?_; simp only [Act.put, List.setIfInBounds_toArray, List.set_cons_zero, List.set_cons_succ]) | (refine q_get (by rfl) rfl rfl (by (repeat (first | exact At.head | apply At.tail)); done) (by first | exact Try.underlying28 | exact Try.underlying3) (by rfl) (by simp only [List.getElem?_toArray, List.getElem?_cons_succ, List.getElem?_cons_zero]; rfl) ?_; simp only [Act.put, List.setIfInBounds_toArray, List.set_cons_zero, List.set_cons_succ]) | (refine q_sub2 (by rfl) rfl rfl (by (repeat (first | exact At.head | apply At.tail)); done) (by first | exact Try.underlying28 | exact Try.underlying3) (by rfl) (by kernel_rfl) (by simp only [List.getElem?_toArray, List.getElem?_cons_succ, List.getElem?_cons_zero]; rfl) (by simp only [List.getElem?_toArray, List.getElem?_cons_succ, List.getElem?_cons_zero]; rfl) ?_; simp only [Act.put, List.setIfInBounds_toArray, List.set_cons_zero, List.set_cons_succ]))
      | ((with_reducible refine qg_call (f := 22) rfl ?_); refine q_call (by rfl) (f := 22) (args := #[.agg #[.int .i64 b0, .int .i64 b1, .int .i64 b2, .int .i64 b3, .int .i64 b4, .int .i64 b5, .int .i64 b6, .int .i64 b7, .int .i64 b8, .int .i64 b9, .int .i64 pu, .int .i64 b11], .int .i64 y]) (fun W => by first | (go_simp; done) | (go_simp; rfl)) (fun W H => pulse_Begin.calls 4 b0 b1 b2 b3 b4 b5 b6 b7 b8 b9 pu b11 y s W HB.out) ?_; simp only [Act.put, List.setIfInBounds_toArray, List.set_cons_zero, List.set_cons_succ])
      | ((with_reducible refine qg_call (f := 23) rfl ?_); refine q_call (by rfl) (f := 23) (args := #[.agg #[.int .i64 b0, .int .i64 b1, .int .i64 b2, .int .i64 b3, .int .i64 b4, .int .i64 b5, .int .i64 b6, .int .i64 b7, .int .i64 b8, .int .i64 b9, .int .i64 pu, .int .i64 b11], .int .i64 a]) (fun W => by first | (go_simp; done) | (go_simp; rfl)) (fun W H => pulse_Phase.calls 1 b0 b1 b2 b3 b4 b5 b6 b7 b8 b9 pu b11 a m W HP.out) ?_; simp only [Act.put, List.setIfInBounds_toArray, List.set_cons_zero, List.set_cons_succ])
      | (refine q_pureK (by rfl) (fun W K hK => by go_simp; exact hK.out) ?_; simp only [Act.put, List.setIfInBounds_toArray, List.set_cons_zero, List.set_cons_succ]))
    refine q_end ?_
    intro W1 H
    go_wp2
    go_ret
    exact ⟨rfl, H.below⟩
  · have hF2 : pulse_Fired.f 1040 b0 b1 b2 b3 b4 b5 b6 b7 b8 b9 pu b11 a b 5 = some [x + 1] := by
      rw [hF, show (min (x + 1 - x) 5).toNat = 1 by omega]
      simp [runl]
    obtain ⟨y, hy⟩ : ∃ y, x + 1 = y := ⟨_, rfl⟩
    rw [hy] at hF2 HYN
    have HF := Lib.hid hF2
    have hw : IntKind.i64.wrap (y - x) = 1 := by rw [show y - x = 1 by omega]; decide
    clear hF hF2 n1 n2 n3 n4 n5 bx hy
    go_wp2_with (first
      | ((with_reducible refine gate_dst (N := 3) rfl ?_); refine fr_box H rfl rfl rfl ?_; intro g3 w3 H1; clear H; have H := H1; clear H1)
      | ((with_reducible refine gate_dst (N := 13) rfl ?_); refine fr_get H rfl rfl rfl (by repeat (first | exact At.head | apply At.tail)) Try.underlying3 rfl (by simp only [List.getElem?_toArray, List.getElem?_cons_succ, List.getElem?_cons_zero]; rfl) ?_)
      | ((with_reducible refine gate_dst (N := 33) rfl ?_); (try (refine gate_guard (by rfl) ?_; dsimp only)); refine fr_get H rfl rfl rfl (by repeat (first | exact At.head | apply At.tail)) Try.underlying3 rfl (by simp only [List.getElem?_toArray, List.getElem?_cons_succ, List.getElem?_cons_zero]; rfl) ?_)
      | ((with_reducible refine gate_dst (N := 40) rfl ?_); refine fr_load H rfl rfl rfl (by repeat (first | exact At.head | apply At.tail)) Try.underlying28 rfl (by kernel_rfl) ?_)
      | ((with_reducible refine gate_dst (N := 43) rfl ?_); refine fr_load H rfl rfl rfl (by repeat (first | exact At.head | apply At.tail)) Try.underlying28 rfl (by kernel_rfl) ?_)
      | ((with_reducible refine gate_dst (N := 46) rfl ?_); refine fr_load H rfl rfl rfl (by repeat (first | exact At.head | apply At.tail)) Try.underlying28 rfl (by kernel_rfl) ?_)
      | ((with_reducible refine gate_dst (N := 81) rfl ?_); (try (refine gate_guard (by rfl) ?_; dsimp only)); refine fr_load H rfl rfl rfl (by repeat (first | exact At.head | apply At.tail)) Try.underlying28 rfl (by kernel_rfl) ?_)
      | ((with_reducible refine gate_dst (N := 84) rfl ?_); (try (refine gate_guard (by rfl) ?_; dsimp only)); refine fr_load H rfl rfl rfl (by repeat (first | exact At.head | apply At.tail)) Try.underlying28 rfl (by kernel_rfl) ?_)
      | (go_at_call 17; (with_reducible refine (clepsydralaw13_alive.calls 60 true _ (alive13_f 60 (by omega))).mono ?_); rintro e w' ⟨rfl, hb⟩; have H1 := H.call hb; clear hb; clear H; have H := H1; clear H1))
    refine fr_region H (by kernel_rfl) (by kernel_rfl) ?_
    clear H
    repeat (first
      | go_big_quiet_skip
      | ((with_reducible refine qg_move rfl ?_); go_big_quiet_want; go_big_quiet_op; go_big_quiet_on)
      | ((with_reducible refine qg_assign rfl ?_); go_big_quiet_want; go_big_quiet_op; go_big_quiet_on)
      | ((with_reducible refine qg_load rfl ?_); first | (refine q_load (by rfl) rfl rfl (by (repeat (first | exact At.head | apply At.tail)); done) (by first | exact Try.underlying28 | exact Try.underlying3) (by rfl) (by kernel_rfl) ?_; simp only [Act.put, List.setIfInBounds_toArray, List.set_cons_zero, List.set_cons_succ]) | (refine q_get (by rfl) rfl rfl (by (repeat (first | exact At.head | apply At.tail)); done) (by first | exact Try.underlying28 | exact Try.underlying3) (by rfl) (by simp only [List.getElem?_toArray, List.getElem?_cons_succ, List.getElem?_cons_zero]; rfl) ?_; simp only [Act.put, List.setIfInBounds_toArray, List.set_cons_zero, List.set_cons_succ]) | (refine q_sub2 (by rfl) rfl rfl (by (repeat (first | exact At.head | apply At.tail)); done) (by first | exact Try.underlying28 | exact Try.underlying3) (by rfl) (by kernel_rfl) (by simp only [List.getElem?_toArray, List.getElem?_cons_succ, List.getElem?_cons_zero]; rfl) (by simp only [List.getElem?_toArray, List.getElem?_cons_succ, List.getElem?_cons_zero]; rfl) ?_; simp only [Act.put, List.setIfInBounds_toArray, List.set_cons_zero, List.set_cons_succ]))
      | ((with_reducible refine qg_call (f := 21) rfl ?_); refine q_call (by rfl) (f := 21) (args := #[.agg #[.int .i64 b0, .int .i64 b1, .int .i64 b2, .int .i64 b3, .int .i64 b4, .int .i64 b5, .int .i64 b6, .int .i64 b7, .int .i64 b8, .int .i64 b9, .int .i64 pu, .int .i64 b11], .int .i64 a]) (fun W => by first | (go_simp; done) | (go_simp; rfl)) (fun W H => pulse_Number.calls 1 b0 b1 b2 b3 b4 b5 b6 b7 b8 b9 pu b11 a x W HXN.out) ?_; simp only [Act.put, List.setIfInBounds_toArray, List.set_cons_zero, List.set_cons_succ])
      | ((with_reducible refine qg_call (f := 21) rfl ?_); refine q_call (by rfl) (f := 21) (args := #[.agg #[.int .i64 b0, .int .i64 b1, .int .i64 b2, .int .i64 b3, .int .i64 b4, .int .i64 b5, .int .i64 b6, .int .i64 b7, .int .i64 b8, .int .i64 b9, .int .i64 pu, .int .i64 b11], .int .i64 b]) (fun W => by first | (go_simp; done) | (go_simp; rfl)) (fun W H => pulse_Number.calls 1 b0 b1 b2 b3 b4 b5 b6 b7 b8 b9 pu b11 b y W HYN.out) ?_; simp only [Act.put, List.setIfInBounds_toArray, List.set_cons_zero, List.set_cons_succ])
      | (refine q_pureK (by rfl) (fun W K hK => by go_simp; exact hK.out) ?_; simp only [Act.put, List.setIfInBounds_toArray, List.set_cons_zero, List.set_cons_succ]))
    refine q_end ?_
    intro W1 H
    go_wp2_with (first
      | ((with_reducible refine gate_dst (N := 3) rfl ?_); refine fr_box H rfl rfl rfl ?_; intro g3 w3 H1; clear H; have H := H1; clear H1)
      | ((with_reducible refine gate_dst (N := 13) rfl ?_); refine fr_get H rfl rfl rfl (by repeat (first | exact At.head | apply At.tail)) Try.underlying3 rfl (by simp only [List.getElem?_toArray, List.getElem?_cons_succ, List.getElem?_cons_zero]; rfl) ?_)
      | ((with_reducible refine gate_dst (N := 33) rfl ?_); (try (refine gate_guard (by rfl) ?_; dsimp only)); refine fr_get H rfl rfl rfl (by repeat (first | exact At.head | apply At.tail)) Try.underlying3 rfl (by simp only [List.getElem?_toArray, List.getElem?_cons_succ, List.getElem?_cons_zero]; rfl) ?_)
      | ((with_reducible refine gate_dst (N := 40) rfl ?_); refine fr_load H rfl rfl rfl (by repeat (first | exact At.head | apply At.tail)) Try.underlying28 rfl (by kernel_rfl) ?_)
      | ((with_reducible refine gate_dst (N := 43) rfl ?_); refine fr_load H rfl rfl rfl (by repeat (first | exact At.head | apply At.tail)) Try.underlying28 rfl (by kernel_rfl) ?_)
      | ((with_reducible refine gate_dst (N := 46) rfl ?_); refine fr_load H rfl rfl rfl (by repeat (first | exact At.head | apply At.tail)) Try.underlying28 rfl (by kernel_rfl) ?_)
      | ((with_reducible refine gate_dst (N := 81) rfl ?_); (try (refine gate_guard (by rfl) ?_; dsimp only)); refine fr_load H rfl rfl rfl (by repeat (first | exact At.head | apply At.tail)) Try.underlying28 rfl (by kernel_rfl) ?_)
      | ((with_reducible refine gate_dst (N := 84) rfl ?_); (try (refine gate_guard (by rfl) ?_; dsimp only)); refine fr_load H rfl rfl rfl (by repeat (first | exact At.head | apply At.tail)) Try.underlying28 rfl (by kernel_rfl) ?_)
      | (go_at_call 19; (with_reducible refine (pulse_Fired.calls 1040 b0 b1 b2 b3 b4 b5 b6 b7 b8 b9 pu b11 a b 5 [y] _ HF.out).mono ?_); rintro e w' ⟨v0, rfl, hR, hb⟩; obtain ⟨A1, c1, rfl, hc1, H1⟩ := H.callR hb hR; clear hb hR; clear H; have H := H1; clear H1))
    obtain ⟨ad, rfl, -⟩ := first_cell (H.now.2)
    refine fr_region H (by kernel_rfl) (by kernel_rfl) ?_
    clear H
    repeat (first
      | go_big_quiet_skip
      | ((with_reducible refine qg_move rfl ?_); go_big_quiet_want; go_big_quiet_op; go_big_quiet_on)
      | ((with_reducible refine qg_assign rfl ?_); go_big_quiet_want; go_big_quiet_op; go_big_quiet_on)
      | ((with_reducible refine qg_load rfl ?_); refine q_cell (by rfl) rfl (ad := ad) (v := .int .i64 y) (by first | rfl | (go_simp; done) | (go_simp; rfl)) Try.underlying3 rfl (fun W h => by obtain ⟨ad', e1, e2⟩ := first_cell h.2; injection e1 with e1; subst e1; exact e2) ?_; simp only [Act.put, List.setIfInBounds_toArray, List.set_cons_zero, List.set_cons_succ])
      | ((with_reducible refine qg_load rfl ?_); first | (refine q_load (by rfl) rfl rfl (by (repeat (first | exact At.head | apply At.tail)); done) (by first | exact Try.underlying28 | exact Try.underlying3) (by rfl) (by kernel_rfl) ?_; simp only [Act.put, List.setIfInBounds_toArray, List.set_cons_zero, List.set_cons_succ]) | (refine q_get (by rfl) rfl rfl (by (repeat (first | exact At.head | apply At.tail)); done) (by first | exact Try.underlying28 | exact Try.underlying3) (by rfl) (by simp only [List.getElem?_toArray, List.getElem?_cons_succ, List.getElem?_cons_zero]; rfl) ?_; simp only [Act.put, List.setIfInBounds_toArray, List.set_cons_zero, List.set_cons_succ]) | (refine q_sub2 (by rfl) rfl rfl (by (repeat (first | exact At.head | apply At.tail)); done) (by first | exact Try.underlying28 | exact Try.underlying3) (by rfl) (by kernel_rfl) (by simp only [List.getElem?_toArray, List.getElem?_cons_succ, List.getElem?_cons_zero]; rfl) (by simp only [List.getElem?_toArray, List.getElem?_cons_succ, List.getElem?_cons_zero]; rfl) ?_; simp only [Act.put, List.setIfInBounds_toArray, List.set_cons_zero, List.set_cons_succ]))
      | ((with_reducible refine qg_call (f := 22) rfl ?_); refine q_call (by rfl) (f := 22) (args := #[.agg #[.int .i64 b0, .int .i64 b1, .int .i64 b2, .int .i64 b3, .int .i64 b4, .int .i64 b5, .int .i64 b6, .int .i64 b7, .int .i64 b8, .int .i64 b9, .int .i64 pu, .int .i64 b11], .int .i64 x]) (fun W => by first | (go_simp; done) | (go_simp; rfl)) (fun W H => pulse_Begin.calls 4 b0 b1 b2 b3 b4 b5 b6 b7 b8 b9 pu b11 x s W HB.out) ?_; simp only [Act.put, List.setIfInBounds_toArray, List.set_cons_zero, List.set_cons_succ])
      | ((with_reducible refine qg_call (f := 23) rfl ?_); refine q_call (by rfl) (f := 23) (args := #[.agg #[.int .i64 b0, .int .i64 b1, .int .i64 b2, .int .i64 b3, .int .i64 b4, .int .i64 b5, .int .i64 b6, .int .i64 b7, .int .i64 b8, .int .i64 b9, .int .i64 pu, .int .i64 b11], .int .i64 a]) (fun W => by first | (go_simp; done) | (go_simp; rfl)) (fun W H => pulse_Phase.calls 1 b0 b1 b2 b3 b4 b5 b6 b7 b8 b9 pu b11 a m W HP.out) ?_; simp only [Act.put, List.setIfInBounds_toArray, List.set_cons_zero, List.set_cons_succ])
      | (refine q_pureK (by rfl) (fun W K hK => by go_simp; exact hK.out) ?_; simp only [Act.put, List.setIfInBounds_toArray, List.set_cons_zero, List.set_cons_succ]))
    refine q_end ?_
    intro W1 H
    go_wp2
    go_ret
    exact ⟨rfl, H.below⟩
end Go.Proofs.Ytdnddekoankmmaa.V
