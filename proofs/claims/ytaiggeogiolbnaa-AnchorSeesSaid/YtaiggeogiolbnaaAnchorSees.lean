/- AnchorSees: Seen, More, Held and Fuse answer what the document says: the walk. -/
import Derived.Test.YtaiggeogiolbnaaRs
import Derived.Test.YtaiggeogiolbnaaEv
namespace Go.Proofs.Ytaiggeogiolbnaa.R
open Go.RowKit Go.Proofs.YtaiggeogiolbnaaW.PrintWords Go.Proofs.YtaiggeogiolbnaaW.PrintLast Go.Proofs.YtaiggeogiolbnaaW.PrintMore Go.Proofs.YtaiggeogiolbnaaPl Go.Proofs.YtaiggeogiolbnaaEv
open Go.Proofs.Ytaiggeogiolbnaa.So (srt least has srt_length)

set_option maxHeartbeats 4000000 in
set_option maxRecDepth 100000 in
theorem clepsydralaw16_AnchorSees.calls (b0 F b2 b3 b4 b5 b6 b7 b8 b9 b10 b11 a1 : Int) (A2 : Option Addr) (c2 : Nat) (l2 : List Int) (A3 : Option Addr) (c3 : Nat) (l3 : List S33) (w : World) (hr2 : Kd.C (Kd.int .i64) w A2 l2.length l2) (hc2 : l2.length ≤ c2) (hr3 : Kd.C k33 w A3 l3.length l3) (hc3 : l3.length ≤ c3) :
    Calls Try.prog 9 #[.agg #[.int .i64 b0, .int .i64 F, .int .i64 b2, .int .i64 b3, .int .i64 b4, .int .i64 b5, .int .i64 b6, .int .i64 b7, .int .i64 b8, .int .i64 b9, .int .i64 b10, .int .i64 b11], .int .i64 a1, .slice A2 l2.length c2, .slice A3 l3.length c3] w fun e w' => e = .returned (.bool true) ∧ Below w.heap.size w w' := by
  have H := Fr.start (A := fun _ => False) (w := w) (p := fun W => Kd.C (Kd.int .i64) W A2 l2.length l2 ∧ Kd.C k33 W A3 l3.length l3) (fun _ h => h.elim) (Tr.and (Tr.of_C hr2 (Kd.heap_int _)) (Tr.of_C hr3 k33_heap))
  clear hr2 hr3
  go_enter Try.func9, Try.ntmps9
  by_cases hl : l2.length ≤ 256
  case neg =>
    have hg : decide ((l2.length : Int) > 256) = true := decide_eq_true (by omega)
    have hg2 : decide ((256 : Int) < (l2.length : Int)) = true := decide_eq_true (by omega)
    go_wp2_with (first
      | ((with_reducible refine gate_dst (N := 4) rfl ?_); refine fr_box H rfl rfl rfl ?_; intro g4 w4 H1; clear H; have H := H1; clear H1)
      | ((with_reducible refine gate_dst (N := 32) rfl ?_); refine fr_load H rfl rfl rfl (by repeat (first | exact At.head | apply At.tail)) Try.underlying23 rfl (by kernel_rfl) ?_)
      | ((with_reducible refine gate_dst (N := 9) rfl ?_); refine fr_new H (N := 9) rfl rfl (cs := #[.int .i64 0, .int .i64 0]) (t := 33) ?hr ?_; (case hr => first | (go_simp; done) | (go_simp; rfl)); intro g9 w9 H1; clear H; have H := H1; clear H1)
      | ((with_reducible refine gate_store (t := 33) (p := 9) rfl ?_); refine fr_put H rfl rfl rfl rfl rfl (by repeat (first | exact At.head | apply At.tail)) (by rfl) (by kernel_rfl) (by simp [Value.oneCell']) ?_; intro w9_ H1; clear H; have H := H1; clear H1)
      | ((with_reducible refine gate_dst (N := 38) rfl ?_); refine fr_load H rfl rfl rfl (by repeat (first | exact At.head | apply At.tail)) Try.underlying23 rfl (by kernel_rfl) ?_)
      | ((with_reducible refine gate_dst (N := 11) rfl ?_); refine fr_new H (N := 11) rfl rfl (cs := #[.int .i64 0, .int .i64 0]) (t := 33) ?hr ?_; (case hr => first | (go_simp; done) | (go_simp; rfl)); intro g11 w11 H1; clear H; have H := H1; clear H1)
      | ((with_reducible refine gate_store (t := 33) (p := 11) rfl ?_); refine fr_put H rfl rfl rfl rfl rfl (by repeat (first | exact At.head | apply At.tail)) (by rfl) (by kernel_rfl) (by simp [Value.oneCell']) ?_; intro w11_ H1; clear H; have H := H1; clear H1)
      | ((with_reducible refine gate_dst (N := 44) rfl ?_); refine fr_load H rfl rfl rfl (by repeat (first | exact At.head | apply At.tail)) Try.underlying23 rfl (by kernel_rfl) ?_)
      | ((with_reducible refine gate_dst (N := 50) rfl ?_); refine fr_load H rfl rfl rfl (by repeat (first | exact At.head | apply At.tail)) Try.underlying23 rfl (by kernel_rfl) ?_)
      | ((with_reducible refine gate_dst (N := 56) rfl ?_); refine fr_load H rfl rfl rfl (by repeat (first | exact At.head | apply At.tail)) Try.underlying23 rfl (by kernel_rfl) ?_)
      | ((with_reducible refine gate_dst (N := 17) rfl ?_); refine fr_new H (N := 17) rfl rfl (cs := #[.int .i64 0, .int .i64 0]) (t := 33) ?hr ?_; (case hr => first | (go_simp; done) | (go_simp; rfl)); intro g17 w17 H1; clear H; have H := H1; clear H1)
      | ((with_reducible refine gate_store (t := 33) (p := 17) rfl ?_); refine fr_put H rfl rfl rfl rfl rfl (by repeat (first | exact At.head | apply At.tail)) (by rfl) (by kernel_rfl) (by simp [Value.oneCell']) ?_; intro w17_ H1; clear H; have H := H1; clear H1)
      | ((with_reducible refine gate_dst (N := 63) rfl ?_); refine fr_get H rfl rfl rfl (by repeat (first | exact At.head | apply At.tail)) Try.underlying3 rfl (by simp only [List.getElem?_toArray, List.getElem?_cons_succ, List.getElem?_cons_zero]; rfl) ?_)
      | ((with_reducible refine gate_dst (N := 19) rfl ?_); refine fr_new H (N := 19) rfl rfl (cs := #[.int .i64 0, .int .i64 0]) (t := 33) ?hr ?_; (case hr => first | (go_simp; done) | (go_simp; rfl)); intro g19 w19 H1; clear H; have H := H1; clear H1)
      | ((with_reducible refine gate_store (t := 33) (p := 19) rfl ?_); refine fr_put H rfl rfl rfl rfl rfl (by repeat (first | exact At.head | apply At.tail)) (by rfl) (by kernel_rfl) (by simp [Value.oneCell']) ?_; intro w19_ H1; clear H; have H := H1; clear H1)
      | ((with_reducible refine gate_dst (N := 68) rfl ?_); refine fr_load H rfl rfl rfl (by repeat (first | exact At.head | apply At.tail)) Try.underlying33 rfl (by kernel_rfl) ?_)
      | ((with_reducible refine gate_dst (N := 69) rfl ?_); refine fr_load H rfl rfl rfl (by repeat (first | exact At.head | apply At.tail)) Try.underlying33 rfl (by kernel_rfl) ?_)
      | ((with_reducible refine gate_dst (N := 87) rfl ?_); (try (refine gate_guard (by rfl) ?_; dsimp only)); refine fr_load H rfl rfl rfl (by repeat (first | exact At.head | apply At.tail)) Try.underlying33 rfl (by kernel_rfl) ?_)
      | ((with_reducible refine gate_dst (N := 88) rfl ?_); (try (refine gate_guard (by rfl) ?_; dsimp only)); refine fr_load H rfl rfl rfl (by repeat (first | exact At.head | apply At.tail)) Try.underlying33 rfl (by kernel_rfl) ?_)
      | (go_at_call 23; (with_reducible refine (clepsydralaw16_alive.calls 20 true _ (alive16_f 20 (by omega))).mono ?_); rintro e w' ⟨rfl, hb⟩; have H1 := H.call hb; clear hb; clear H; have H := H1; clear H1))
    go_ret
    exact ⟨rfl, H.below⟩
  case pos =>
    have hg : decide ((l2.length : Int) > 256) = false := decide_eq_false (by omega)
    have hg2 : decide ((256 : Int) < (l2.length : Int)) = false := decide_eq_false (by omega)
    by_cases hm : l3.length ≤ 256
    case neg =>
      have kg : decide ((l3.length : Int) > 256) = true := decide_eq_true (by omega)
      have kg2 : decide ((256 : Int) < (l3.length : Int)) = true := decide_eq_true (by omega)
      go_wp2_with (first
        | ((with_reducible refine gate_dst (N := 4) rfl ?_); refine fr_box H rfl rfl rfl ?_; intro g4 w4 H1; clear H; have H := H1; clear H1)
        | ((with_reducible refine gate_dst (N := 32) rfl ?_); refine fr_load H rfl rfl rfl (by repeat (first | exact At.head | apply At.tail)) Try.underlying23 rfl (by kernel_rfl) ?_)
        | ((with_reducible refine gate_dst (N := 9) rfl ?_); refine fr_new H (N := 9) rfl rfl (cs := #[.int .i64 0, .int .i64 0]) (t := 33) ?hr ?_; (case hr => first | (go_simp; done) | (go_simp; rfl)); intro g9 w9 H1; clear H; have H := H1; clear H1)
        | ((with_reducible refine gate_store (t := 33) (p := 9) rfl ?_); refine fr_put H rfl rfl rfl rfl rfl (by repeat (first | exact At.head | apply At.tail)) (by rfl) (by kernel_rfl) (by simp [Value.oneCell']) ?_; intro w9_ H1; clear H; have H := H1; clear H1)
        | ((with_reducible refine gate_dst (N := 38) rfl ?_); refine fr_load H rfl rfl rfl (by repeat (first | exact At.head | apply At.tail)) Try.underlying23 rfl (by kernel_rfl) ?_)
        | ((with_reducible refine gate_dst (N := 11) rfl ?_); refine fr_new H (N := 11) rfl rfl (cs := #[.int .i64 0, .int .i64 0]) (t := 33) ?hr ?_; (case hr => first | (go_simp; done) | (go_simp; rfl)); intro g11 w11 H1; clear H; have H := H1; clear H1)
        | ((with_reducible refine gate_store (t := 33) (p := 11) rfl ?_); refine fr_put H rfl rfl rfl rfl rfl (by repeat (first | exact At.head | apply At.tail)) (by rfl) (by kernel_rfl) (by simp [Value.oneCell']) ?_; intro w11_ H1; clear H; have H := H1; clear H1)
        | ((with_reducible refine gate_dst (N := 44) rfl ?_); refine fr_load H rfl rfl rfl (by repeat (first | exact At.head | apply At.tail)) Try.underlying23 rfl (by kernel_rfl) ?_)
        | ((with_reducible refine gate_dst (N := 50) rfl ?_); refine fr_load H rfl rfl rfl (by repeat (first | exact At.head | apply At.tail)) Try.underlying23 rfl (by kernel_rfl) ?_)
        | ((with_reducible refine gate_dst (N := 56) rfl ?_); refine fr_load H rfl rfl rfl (by repeat (first | exact At.head | apply At.tail)) Try.underlying23 rfl (by kernel_rfl) ?_)
        | ((with_reducible refine gate_dst (N := 17) rfl ?_); refine fr_new H (N := 17) rfl rfl (cs := #[.int .i64 0, .int .i64 0]) (t := 33) ?hr ?_; (case hr => first | (go_simp; done) | (go_simp; rfl)); intro g17 w17 H1; clear H; have H := H1; clear H1)
        | ((with_reducible refine gate_store (t := 33) (p := 17) rfl ?_); refine fr_put H rfl rfl rfl rfl rfl (by repeat (first | exact At.head | apply At.tail)) (by rfl) (by kernel_rfl) (by simp [Value.oneCell']) ?_; intro w17_ H1; clear H; have H := H1; clear H1)
        | ((with_reducible refine gate_dst (N := 63) rfl ?_); refine fr_get H rfl rfl rfl (by repeat (first | exact At.head | apply At.tail)) Try.underlying3 rfl (by simp only [List.getElem?_toArray, List.getElem?_cons_succ, List.getElem?_cons_zero]; rfl) ?_)
        | ((with_reducible refine gate_dst (N := 19) rfl ?_); refine fr_new H (N := 19) rfl rfl (cs := #[.int .i64 0, .int .i64 0]) (t := 33) ?hr ?_; (case hr => first | (go_simp; done) | (go_simp; rfl)); intro g19 w19 H1; clear H; have H := H1; clear H1)
        | ((with_reducible refine gate_store (t := 33) (p := 19) rfl ?_); refine fr_put H rfl rfl rfl rfl rfl (by repeat (first | exact At.head | apply At.tail)) (by rfl) (by kernel_rfl) (by simp [Value.oneCell']) ?_; intro w19_ H1; clear H; have H := H1; clear H1)
        | ((with_reducible refine gate_dst (N := 68) rfl ?_); refine fr_load H rfl rfl rfl (by repeat (first | exact At.head | apply At.tail)) Try.underlying33 rfl (by kernel_rfl) ?_)
        | ((with_reducible refine gate_dst (N := 69) rfl ?_); refine fr_load H rfl rfl rfl (by repeat (first | exact At.head | apply At.tail)) Try.underlying33 rfl (by kernel_rfl) ?_)
        | ((with_reducible refine gate_dst (N := 87) rfl ?_); (try (refine gate_guard (by rfl) ?_; dsimp only)); refine fr_load H rfl rfl rfl (by repeat (first | exact At.head | apply At.tail)) Try.underlying33 rfl (by kernel_rfl) ?_)
        | ((with_reducible refine gate_dst (N := 88) rfl ?_); (try (refine gate_guard (by rfl) ?_; dsimp only)); refine fr_load H rfl rfl rfl (by repeat (first | exact At.head | apply At.tail)) Try.underlying33 rfl (by kernel_rfl) ?_)
        | (go_at_call 23; (with_reducible refine (clepsydralaw16_alive.calls 20 true _ (alive16_f 20 (by omega))).mono ?_); rintro e w' ⟨rfl, hb⟩; have H1 := H.call hb; clear hb; clear H; have H := H1; clear H1))
      go_ret
      exact ⟨rfl, H.below⟩
    case pos =>
      have kg : decide ((l3.length : Int) > 256) = false := decide_eq_false (by omega)
      have kg2 : decide ((256 : Int) < (l3.length : Int)) = false := decide_eq_false (by omega)
      have hb : l2.length * (l2.length + 2) ≤ 256 * 258 := Nat.mul_le_mul (by omega) (by omega)
      have hx1 := Seen_f b0 F b2 b3 b4 b5 b6 b7 b8 b9 b10 b11 a1 0
      have hx2 := refSeen_f b0 F b2 b3 b4 b5 b6 b7 b8 b9 b10 b11 a1 0
      have hn1 := Held2_f b0 F b2 b3 b4 b5 b6 b7 b8 b9 b10 b11 l2 (by omega) 0
      have hn2 := refHeld_f b0 F b2 b3 b4 b5 b6 b7 b8 b9 b10 b11 l2 (by omega) 70000 (by omega)
      have hy1 := AFuse_f b0 F b2 b3 b4 b5 b6 b7 b8 b9 b10 b11 l3 (by omega) 300 (by omega)
      have hy2 := refFuse_f F l3 hm 80000 (by omega)
      have hq1 := More2_f 0 a1
      have hq2 := refMore_f 0 a1
      obtain ⟨x, hx⟩ : ∃ x, seen b7 a1 = x := ⟨_, rfl⟩
      obtain ⟨n, hn⟩ : ∃ n, held F l2 = n := ⟨_, rfl⟩
      obtain ⟨y, hy⟩ : ∃ y, fuse F l3 = y := ⟨_, rfl⟩
      obtain ⟨q, hq⟩ : ∃ q, more a1 = q := ⟨_, rfl⟩
      rw [hx] at hx1 hx2
      rw [hn] at hn1 hn2
      rw [hy] at hy1 hy2
      rw [hq] at hq1 hq2
      obtain ⟨x1, x2, x3⟩ := x
      obtain ⟨n1, n2⟩ := n
      obtain ⟨y1, y2, y3⟩ := y
      have HX := Lib.hid hx1
      have HX2 := Lib.hid hx2
      have HN := Lib.hid hn1
      have HN2 := Lib.hid hn2
      have HY := Lib.hid hy1
      have HY2 := Lib.hid hy2
      have HQ := Lib.hid hq1
      have HQ2 := Lib.hid hq2
      clear hx1 hx2 hn1 hn2 hy1 hy2 hq1 hq2 hx hn hy hq hb hl hm
      go_wp2_with (first
        | ((with_reducible refine gate_dst (N := 4) rfl ?_); refine fr_box H rfl rfl rfl ?_; intro g4 w4 H1; clear H; have H := H1; clear H1)
        | ((with_reducible refine gate_dst (N := 32) rfl ?_); refine fr_load H rfl rfl rfl (by repeat (first | exact At.head | apply At.tail)) Try.underlying23 rfl (by kernel_rfl) ?_)
        | ((with_reducible refine gate_dst (N := 9) rfl ?_); refine fr_new H (N := 9) rfl rfl (cs := #[.int .i64 0, .int .i64 0]) (t := 33) ?hr ?_; (case hr => first | (go_simp; done) | (go_simp; rfl)); intro g9 w9 H1; clear H; have H := H1; clear H1)
        | ((with_reducible refine gate_store (t := 33) (p := 9) rfl ?_); refine fr_put H rfl rfl rfl rfl rfl (by repeat (first | exact At.head | apply At.tail)) (by rfl) (by kernel_rfl) (by simp [Value.oneCell']) ?_; intro w9_ H1; clear H; have H := H1; clear H1)
        | ((with_reducible refine gate_dst (N := 38) rfl ?_); refine fr_load H rfl rfl rfl (by repeat (first | exact At.head | apply At.tail)) Try.underlying23 rfl (by kernel_rfl) ?_)
        | ((with_reducible refine gate_dst (N := 11) rfl ?_); refine fr_new H (N := 11) rfl rfl (cs := #[.int .i64 0, .int .i64 0]) (t := 33) ?hr ?_; (case hr => first | (go_simp; done) | (go_simp; rfl)); intro g11 w11 H1; clear H; have H := H1; clear H1)
        | ((with_reducible refine gate_store (t := 33) (p := 11) rfl ?_); refine fr_put H rfl rfl rfl rfl rfl (by repeat (first | exact At.head | apply At.tail)) (by rfl) (by kernel_rfl) (by simp [Value.oneCell']) ?_; intro w11_ H1; clear H; have H := H1; clear H1)
        | ((with_reducible refine gate_dst (N := 44) rfl ?_); refine fr_load H rfl rfl rfl (by repeat (first | exact At.head | apply At.tail)) Try.underlying23 rfl (by kernel_rfl) ?_)
        | ((with_reducible refine gate_dst (N := 50) rfl ?_); refine fr_load H rfl rfl rfl (by repeat (first | exact At.head | apply At.tail)) Try.underlying23 rfl (by kernel_rfl) ?_)
        | ((with_reducible refine gate_dst (N := 56) rfl ?_); refine fr_load H rfl rfl rfl (by repeat (first | exact At.head | apply At.tail)) Try.underlying23 rfl (by kernel_rfl) ?_)
        | ((with_reducible refine gate_dst (N := 17) rfl ?_); refine fr_new H (N := 17) rfl rfl (cs := #[.int .i64 0, .int .i64 0]) (t := 33) ?hr ?_; (case hr => first | (go_simp; done) | (go_simp; rfl)); intro g17 w17 H1; clear H; have H := H1; clear H1)
        | ((with_reducible refine gate_store (t := 33) (p := 17) rfl ?_); refine fr_put H rfl rfl rfl rfl rfl (by repeat (first | exact At.head | apply At.tail)) (by rfl) (by kernel_rfl) (by simp [Value.oneCell']) ?_; intro w17_ H1; clear H; have H := H1; clear H1)
        | ((with_reducible refine gate_dst (N := 63) rfl ?_); refine fr_get H rfl rfl rfl (by repeat (first | exact At.head | apply At.tail)) Try.underlying3 rfl (by simp only [List.getElem?_toArray, List.getElem?_cons_succ, List.getElem?_cons_zero]; rfl) ?_)
        | ((with_reducible refine gate_dst (N := 19) rfl ?_); refine fr_new H (N := 19) rfl rfl (cs := #[.int .i64 0, .int .i64 0]) (t := 33) ?hr ?_; (case hr => first | (go_simp; done) | (go_simp; rfl)); intro g19 w19 H1; clear H; have H := H1; clear H1)
        | ((with_reducible refine gate_store (t := 33) (p := 19) rfl ?_); refine fr_put H rfl rfl rfl rfl rfl (by repeat (first | exact At.head | apply At.tail)) (by rfl) (by kernel_rfl) (by simp [Value.oneCell']) ?_; intro w19_ H1; clear H; have H := H1; clear H1)
        | ((with_reducible refine gate_dst (N := 68) rfl ?_); refine fr_load H rfl rfl rfl (by repeat (first | exact At.head | apply At.tail)) Try.underlying33 rfl (by kernel_rfl) ?_)
        | ((with_reducible refine gate_dst (N := 69) rfl ?_); refine fr_load H rfl rfl rfl (by repeat (first | exact At.head | apply At.tail)) Try.underlying33 rfl (by kernel_rfl) ?_)
        | ((with_reducible refine gate_dst (N := 87) rfl ?_); (try (refine gate_guard (by rfl) ?_; dsimp only)); refine fr_load H rfl rfl rfl (by repeat (first | exact At.head | apply At.tail)) Try.underlying33 rfl (by kernel_rfl) ?_)
        | ((with_reducible refine gate_dst (N := 88) rfl ?_); (try (refine gate_guard (by rfl) ?_; dsimp only)); refine fr_load H rfl rfl rfl (by repeat (first | exact At.head | apply At.tail)) Try.underlying33 rfl (by kernel_rfl) ?_)
        | (go_at_call 23; (with_reducible refine (clepsydralaw16_alive.calls 20 true _ (alive16_f 20 (by omega))).mono ?_); rintro e w' ⟨rfl, hb⟩; have H1 := H.call hb; clear hb; clear H; have H := H1; clear H1)
        | (go_at_call 25; (with_reducible refine (anchor_Seen.calls 5 b0 F b2 b3 b4 b5 b6 b7 b8 b9 b10 b11 a1 x1 x2 x3 _ HX.out).mono ?_); rintro e w' ⟨rfl, hb⟩; have H1 := H.call hb; clear hb; clear H; have H := H1; clear H1)
        | (go_at_call 26; (with_reducible refine (clepsydraref16_Seen.calls 5 b0 F b2 b3 b4 b5 b6 b7 b8 b9 b10 b11 a1 x1 x2 x3 _ HX2.out).mono ?_); rintro e w' ⟨rfl, hb⟩; have H1 := H.call hb; clear hb; clear H; have H := H1; clear H1)
        | (go_at_call 24; (with_reducible refine (anchor_Held.calls 4 b0 F b2 b3 b4 b5 b6 b7 b8 b9 b10 b11 A2 c2 l2 n1 n2 _ (H.now.1) hc2 HN.out).mono ?_); rintro e w' ⟨rfl, hb⟩; have H1 := H.call hb; clear hb; clear H; have H := H1; clear H1)
        | (go_at_call 27; (with_reducible refine (clepsydraref16_Held.calls 70004 b0 F b2 b3 b4 b5 b6 b7 b8 b9 b10 b11 A2 c2 l2 n1 n2 _ (H.now.1) hc2 HN2.out).mono ?_); rintro e w' ⟨rfl, hb⟩; have H1 := H.call hb; clear hb; clear H; have H := H1; clear H1)
        | (go_at_call 28; (with_reducible refine (anchor_Fuse.calls 300 b0 F b2 b3 b4 b5 b6 b7 b8 b9 b10 b11 A3 c3 l3 y1 y2 y3 _ (H.now.2) hc3 HY.out).mono ?_); rintro e w' ⟨rfl, hb⟩; have H1 := H.call hb; clear hb; clear H; have H := H1; clear H1)
        | (go_at_call 29; (with_reducible refine (clepsydraref07_Fuse.calls 80000 F A3 c3 l3 y1 y2 y3 _ (H.now.2) hc3 HY2.out).mono ?_); rintro e w' ⟨rfl, hb⟩; have H1 := H.call hb; clear hb; clear H; have H := H1; clear H1)
        | (go_at_call 30; (with_reducible refine (anchor_More.calls 4 a1 q _ HQ.out).mono ?_); rintro e w' ⟨rfl, hb⟩; have H1 := H.call hb; clear hb; clear H; have H := H1; clear H1)
        | (go_at_call 31; (with_reducible refine (clepsydraref16_More.calls 4 a1 q _ HQ2.out).mono ?_); rintro e w' ⟨rfl, hb⟩; have H1 := H.call hb; clear hb; clear H; have H := H1; clear H1))
      go_ret
      exact ⟨rfl, H.below⟩
end Go.Proofs.Ytaiggeogiolbnaa.R
