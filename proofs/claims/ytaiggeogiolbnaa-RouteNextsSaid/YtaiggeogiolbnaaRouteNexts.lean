/- RouteNexts: Lost and Next answer what the document says, of all steps: the walk. -/
import Derived.Test.YtaiggeogiolbnaaRouteLaw
namespace Go.Proofs.Ytaiggeogiolbnaa.Q
open Go.RowKit Go.Proofs.YtaiggeogiolbnaaW.PrintWords Go.Proofs.YtaiggeogiolbnaaW.PrintLast Go.Proofs.YtaiggeogiolbnaaW.PrintMore Go.Proofs.YtaiggeogiolbnaaPl Go.Proofs.YtaiggeogiolbnaaEv

set_option maxHeartbeats 4000000 in
set_option maxRecDepth 100000 in
theorem clepsydralaw15_RouteNexts.calls (b0 b1 D b3 b4 b5 b6 b7 b8 b9 b10 b11 : Int) (A1 : Option Addr) (c1 : Nat) (l : List Int) (w : World) (hr : Kd.C (Kd.int .i64) w A1 l.length l) (hc : l.length ≤ c1) :
    Calls Try.prog 3 #[.agg #[.int .i64 b0, .int .i64 b1, .int .i64 D, .int .i64 b3, .int .i64 b4, .int .i64 b5, .int .i64 b6, .int .i64 b7, .int .i64 b8, .int .i64 b9, .int .i64 b10, .int .i64 b11], .slice A1 l.length c1] w fun e w' => e = .returned (.bool true) ∧ Below w.heap.size w w' := by
  have H := Fr.start (A := fun _ => False) (w := w) (p := fun W => Kd.C (Kd.int .i64) W A1 l.length l) (fun _ h => h.elim) (Tr.of_C hr (Kd.heap_int _))
  clear hr
  go_enter Try.func3, Try.ntmps3
  go_wp2_with (first
    | ((with_reducible refine gate_dst (N := 2) rfl ?_); refine fr_box H rfl rfl rfl ?_; intro g2 w2 H1; clear H; have H := H1; clear H1)
    | ((with_reducible refine gate_dst (N := 7) rfl ?_); refine fr_load H rfl rfl rfl (by repeat (first | exact At.head | apply At.tail)) Try.underlying23 rfl (by kernel_rfl) ?_)
    | ((with_reducible refine gate_dst (N := 15) rfl ?_); (try (refine gate_guard (by rfl) ?_; dsimp only)); refine fr_load H rfl rfl rfl (by repeat (first | exact At.head | apply At.tail)) Try.underlying23 rfl (by kernel_rfl) ?_)
    | ((with_reducible refine gate_dst (N := 18) rfl ?_); (try (refine gate_guard (by rfl) ?_; dsimp only)); refine fr_load H rfl rfl rfl (by repeat (first | exact At.head | apply At.tail)) Try.underlying23 rfl (by kernel_rfl) ?_)
    | ((with_reducible refine gate_dst (N := 23) rfl ?_); (try (refine gate_guard (by rfl) ?_; dsimp only)); refine fr_load H rfl rfl rfl (by repeat (first | exact At.head | apply At.tail)) Try.underlying23 rfl (by kernel_rfl) ?_)
    | ((with_reducible refine gate_dst (N := 26) rfl ?_); (try (refine gate_guard (by rfl) ?_; dsimp only)); refine fr_get H rfl rfl rfl (by repeat (first | exact At.head | apply At.tail)) Try.underlying3 rfl (by simp only [List.getElem?_toArray, List.getElem?_cons_succ, List.getElem?_cons_zero]; rfl) ?_)
    | (go_at_call 12; (with_reducible refine (alive_calls _).mono ?_); rintro e w' ⟨rfl, hb⟩; have H1 := H.call hb; clear hb; clear H; have H := H1; clear H1))
  by_cases hD : D < 0 ∨ D > 16
  · have HO := Lib.hid (decide_eq_true hD)
    clear hD
    refine fr_region H (by kernel_rfl) (by kernel_rfl) ?_
    clear H
    repeat (first
      | go_big_quiet_skip
      | ((with_reducible refine qg_move rfl ?_); go_big_quiet_want; go_big_quiet_op; go_big_quiet_on)
      | ((with_reducible refine qg_assign rfl ?_); go_big_quiet_want; go_big_quiet_op; go_big_quiet_on)
      | ((with_reducible refine qg_load rfl ?_); first | (refine q_load (by rfl) rfl rfl (by (repeat (first | exact At.head | apply At.tail)); done) (by first | exact Try.underlying23 | exact Try.underlying3) (by rfl) (by kernel_rfl) ?_; simp only [Act.put, List.setIfInBounds_toArray, List.set_cons_zero, List.set_cons_succ]) | (refine q_get (by rfl) rfl rfl (by (repeat (first | exact At.head | apply At.tail)); done) (by first | exact Try.underlying23 | exact Try.underlying3) (by rfl) (by simp only [List.getElem?_toArray, List.getElem?_cons_succ, List.getElem?_cons_zero]; rfl) ?_; simp only [Act.put, List.setIfInBounds_toArray, List.set_cons_zero, List.set_cons_succ]) | (refine q_sub2 (by rfl) rfl rfl (by (repeat (first | exact At.head | apply At.tail)); done) (by first | exact Try.underlying23 | exact Try.underlying3) (by rfl) (by kernel_rfl) (by simp only [List.getElem?_toArray, List.getElem?_cons_succ, List.getElem?_cons_zero]; rfl) (by simp only [List.getElem?_toArray, List.getElem?_cons_succ, List.getElem?_cons_zero]; rfl) ?_; simp only [Act.put, List.setIfInBounds_toArray, List.set_cons_zero, List.set_cons_succ]))
      | ((with_reducible refine qg_call (f := 13) rfl ?_); refine q_call (by rfl) (f := 13) (args := #[.agg #[.int .i64 b0, .int .i64 b1, .int .i64 D, .int .i64 b3, .int .i64 b4, .int .i64 b5, .int .i64 b6, .int .i64 b7, .int .i64 b8, .int .i64 b9, .int .i64 b10, .int .i64 b11]]) (fun W => by first | (go_simp; done) | (go_simp; rfl)) (fun W H => odd_calls b0 b1 D b3 b4 b5 b6 b7 b8 b9 b10 b11 W HO.out) ?_; simp only [Act.put, List.setIfInBounds_toArray, List.set_cons_zero, List.set_cons_succ])
      | (refine q_pureK (by rfl) (fun W K hK => by go_simp; exact hK.out) ?_; simp only [Act.put, List.setIfInBounds_toArray, List.set_cons_zero, List.set_cons_succ]))
    refine q_end ?_
    intro W1 H
    go_wp2
    go_ret
    exact ⟨rfl, H.below⟩
  · have hD0 : 0 ≤ D := by omega
    have hD1 : D ≤ 16 := by omega
    have hw1 : IntKind.i64.wrap (D + 1) = D + 1 := IntWalk.i64_in _ (by omega)
    have HO := Lib.hid (decide_eq_false hD)
    clear hD
    by_cases hl : l.length ≤ 1024
    · have hg : decide ((l.length : Int) > 1024) = false := decide_eq_false (by omega)
      have hg2 : decide ((1024 : Int) < (l.length : Int)) = false := decide_eq_false (by omega)
      refine fr_region H (by kernel_rfl) (by kernel_rfl) ?_
      clear H
      repeat (first
      | go_big_quiet_skip
      | ((with_reducible refine qg_move rfl ?_); go_big_quiet_want; go_big_quiet_op; go_big_quiet_on)
      | ((with_reducible refine qg_assign rfl ?_); go_big_quiet_want; go_big_quiet_op; go_big_quiet_on)
      | ((with_reducible refine qg_load rfl ?_); first | (refine q_load (by rfl) rfl rfl (by (repeat (first | exact At.head | apply At.tail)); done) (by first | exact Try.underlying23 | exact Try.underlying3) (by rfl) (by kernel_rfl) ?_; simp only [Act.put, List.setIfInBounds_toArray, List.set_cons_zero, List.set_cons_succ]) | (refine q_get (by rfl) rfl rfl (by (repeat (first | exact At.head | apply At.tail)); done) (by first | exact Try.underlying23 | exact Try.underlying3) (by rfl) (by simp only [List.getElem?_toArray, List.getElem?_cons_succ, List.getElem?_cons_zero]; rfl) ?_; simp only [Act.put, List.setIfInBounds_toArray, List.set_cons_zero, List.set_cons_succ]) | (refine q_sub2 (by rfl) rfl rfl (by (repeat (first | exact At.head | apply At.tail)); done) (by first | exact Try.underlying23 | exact Try.underlying3) (by rfl) (by kernel_rfl) (by simp only [List.getElem?_toArray, List.getElem?_cons_succ, List.getElem?_cons_zero]; rfl) (by simp only [List.getElem?_toArray, List.getElem?_cons_succ, List.getElem?_cons_zero]; rfl) ?_; simp only [Act.put, List.setIfInBounds_toArray, List.set_cons_zero, List.set_cons_succ]))
      | ((with_reducible refine qg_call (f := 13) rfl ?_); refine q_call (by rfl) (f := 13) (args := #[.agg #[.int .i64 b0, .int .i64 b1, .int .i64 D, .int .i64 b3, .int .i64 b4, .int .i64 b5, .int .i64 b6, .int .i64 b7, .int .i64 b8, .int .i64 b9, .int .i64 b10, .int .i64 b11]]) (fun W => by first | (go_simp; done) | (go_simp; rfl)) (fun W H => odd_calls b0 b1 D b3 b4 b5 b6 b7 b8 b9 b10 b11 W HO.out) ?_; simp only [Act.put, List.setIfInBounds_toArray, List.set_cons_zero, List.set_cons_succ])
      | ((with_reducible refine qg_call (f := 14) rfl ?_); refine q_call (by rfl) (f := 14) (args := #[.agg #[.int .i64 b0, .int .i64 b1, .int .i64 D, .int .i64 b3, .int .i64 b4, .int .i64 b5, .int .i64 b6, .int .i64 b7, .int .i64 b8, .int .i64 b9, .int .i64 b10, .int .i64 b11], .slice A1 l.length c1]) (fun W => by first | (go_simp; done) | (go_simp; rfl)) (fun W H => Next_calls b0 b1 D b3 b4 b5 b6 b7 b8 b9 b10 b11 hD0 hD1 A1 l.length c1 l W H.now hc (by omega) _ rfl) ?_; simp only [Act.put, List.setIfInBounds_toArray, List.set_cons_zero, List.set_cons_succ])
      | ((with_reducible refine qg_call (f := 15) rfl ?_); refine q_call (by rfl) (f := 15) (args := #[.agg #[.int .i64 b0, .int .i64 b1, .int .i64 D, .int .i64 b3, .int .i64 b4, .int .i64 b5, .int .i64 b6, .int .i64 b7, .int .i64 b8, .int .i64 b9, .int .i64 b10, .int .i64 b11], .slice A1 l.length c1]) (fun W => by first | (go_simp; done) | (go_simp; rfl)) (fun W H => refNext_calls b0 b1 D b3 b4 b5 b6 b7 b8 b9 b10 b11 hD0 hD1 A1 l.length c1 l W H.now hc hl _ rfl) ?_; simp only [Act.put, List.setIfInBounds_toArray, List.set_cons_zero, List.set_cons_succ])
      | ((with_reducible refine qg_call (f := 16) rfl ?_); refine q_call (by rfl) (f := 16) (args := #[.agg #[.int .i64 b0, .int .i64 b1, .int .i64 D, .int .i64 b3, .int .i64 b4, .int .i64 b5, .int .i64 b6, .int .i64 b7, .int .i64 b8, .int .i64 b9, .int .i64 b10, .int .i64 b11]]) (fun W => by first | (go_simp; done) | (go_simp; rfl)) (fun W H => Lost_calls b0 b1 D b3 b4 b5 b6 b7 b8 b9 b10 b11 hD0 hD1 W) ?_; simp only [Act.put, List.setIfInBounds_toArray, List.set_cons_zero, List.set_cons_succ])
      | (refine q_pureK (by rfl) (fun W K hK => by go_simp; exact hK.out) ?_; simp only [Act.put, List.setIfInBounds_toArray, List.set_cons_zero, List.set_cons_succ]))
      refine q_end ?_
      intro W1 H
      go_wp2
      go_ret
      exact ⟨rfl, H.below⟩
    · have hg : decide ((l.length : Int) > 1024) = true := decide_eq_true (by omega)
      have hg2 : decide ((1024 : Int) < (l.length : Int)) = true := decide_eq_true (by omega)
      refine fr_region H (by kernel_rfl) (by kernel_rfl) ?_
      clear H
      repeat (first
      | go_big_quiet_skip
      | ((with_reducible refine qg_move rfl ?_); go_big_quiet_want; go_big_quiet_op; go_big_quiet_on)
      | ((with_reducible refine qg_assign rfl ?_); go_big_quiet_want; go_big_quiet_op; go_big_quiet_on)
      | ((with_reducible refine qg_load rfl ?_); first | (refine q_load (by rfl) rfl rfl (by (repeat (first | exact At.head | apply At.tail)); done) (by first | exact Try.underlying23 | exact Try.underlying3) (by rfl) (by kernel_rfl) ?_; simp only [Act.put, List.setIfInBounds_toArray, List.set_cons_zero, List.set_cons_succ]) | (refine q_get (by rfl) rfl rfl (by (repeat (first | exact At.head | apply At.tail)); done) (by first | exact Try.underlying23 | exact Try.underlying3) (by rfl) (by simp only [List.getElem?_toArray, List.getElem?_cons_succ, List.getElem?_cons_zero]; rfl) ?_; simp only [Act.put, List.setIfInBounds_toArray, List.set_cons_zero, List.set_cons_succ]) | (refine q_sub2 (by rfl) rfl rfl (by (repeat (first | exact At.head | apply At.tail)); done) (by first | exact Try.underlying23 | exact Try.underlying3) (by rfl) (by kernel_rfl) (by simp only [List.getElem?_toArray, List.getElem?_cons_succ, List.getElem?_cons_zero]; rfl) (by simp only [List.getElem?_toArray, List.getElem?_cons_succ, List.getElem?_cons_zero]; rfl) ?_; simp only [Act.put, List.setIfInBounds_toArray, List.set_cons_zero, List.set_cons_succ]))
      | ((with_reducible refine qg_call (f := 13) rfl ?_); refine q_call (by rfl) (f := 13) (args := #[.agg #[.int .i64 b0, .int .i64 b1, .int .i64 D, .int .i64 b3, .int .i64 b4, .int .i64 b5, .int .i64 b6, .int .i64 b7, .int .i64 b8, .int .i64 b9, .int .i64 b10, .int .i64 b11]]) (fun W => by first | (go_simp; done) | (go_simp; rfl)) (fun W H => odd_calls b0 b1 D b3 b4 b5 b6 b7 b8 b9 b10 b11 W HO.out) ?_; simp only [Act.put, List.setIfInBounds_toArray, List.set_cons_zero, List.set_cons_succ])
      | (refine q_pureK (by rfl) (fun W K hK => by go_simp; exact hK.out) ?_; simp only [Act.put, List.setIfInBounds_toArray, List.set_cons_zero, List.set_cons_succ]))
      refine q_end ?_
      intro W1 H
      go_wp2
      go_ret
      exact ⟨rfl, H.below⟩
end Go.Proofs.Ytaiggeogiolbnaa.Q
