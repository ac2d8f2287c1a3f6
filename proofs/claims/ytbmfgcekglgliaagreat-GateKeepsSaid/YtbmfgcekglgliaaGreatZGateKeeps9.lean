/- Texts Yh, Sk, Gq, Gi, Gw, in one file, without what is not needed here. -/
import Derived.Shelf.SlSortCmp.InsertionK
import Derived.Ground.SlsfProg
import Derived.Test.YtbmfgcekglgliaaGreatProg
import Derived.Test.YtbmfgcekglgliaaGreatZGateKeeps8
namespace Go.Proofs.YtbmfgcekglgliaaGreat.G
open Go.RowKit Go.Proofs.YtbmfgcekglgliaaGreatW.PrintWords Go.Proofs.YtbmfgcekglgliaaGreatW.PrintLast Go.Proofs.YtbmfgcekglgliaaGreatW.PrintMore Go.Proofs.YtbmfgcekglgliaaGreatPl Go.Proofs.YtbmfgcekglgliaaGreatEm Go.Proofs.YtbmfgcekglgliaaGreatKr Go.Proofs.YtbmfgcekglgliaaGreat.X
set_option linter.unusedVariables false
set_option linter.unusedSimpArgs false
theorem clip_eq (t : Int) : (clip t == t) = (decide (-2305843009213693952 ≤ t) && decide (t ≤ 2305843009213693952)) := by
  rw [Bool.eq_iff_iff]
  simp only [beq_iff_eq, Bool.and_eq_true, decide_eq_true_eq]
  unfold clip
  constructor
  · intro h; repeat' split at h <;> omega
  · intro h; rw [if_neg (by omega), if_neg (by omega)]
set_option maxHeartbeats 2000000 in
set_option maxRecDepth 100000 in
theorem RRight_calls (t n : Int) (w : World) : Calls Tryz.prog 25 #[.agg #[.int .i64 t, .int .i64 n]] w fun e w' => e = .returned (.bool (rightP t n)) ∧ Below w.heap.size w w' := by
  obtain ⟨b1, h1⟩ : ∃ b, (clip t == t) = b := ⟨_, rfl⟩
  obtain ⟨b3, h3⟩ : ∃ b, decide (0 ≤ n) = b := ⟨_, rfl⟩
  obtain ⟨b4, h4⟩ : ∃ b, decide (n ≤ 1073741824) = b := ⟨_, rfl⟩
  have HR : Hid (rightP t n = (b1 && b3 && b4)) := Lib.hid (by unfold rightP; rw [← clip_eq, h1, h3, h4])
  have d1 : (clip t == t) = b1 := h1
  have d3 : decide (0 ≤ n) = b3 := h3
  have d4 : decide (n ≤ 1073741824) = b4 := h4
  cases b1 with
  | false =>
    clear h1 h3 h4
    have H := Fr.start0 (M := fun _ => False) (A := fun _ => False) (w := w) (p := fun _ => True) (fun _ h => h.elim) (fun _ _ => trivial)
    go_enter Tryz.func25, Tryz.ntmps25
    go_wp2_with (first
      | ((with_reducible refine gate_dst (N := 1) rfl ?_); refine fr_box H rfl rfl rfl ?_; intro g1 w1 H1; replace H := H1; clear H1)
      | fail)
    refine ko_region0 H (by kernel_rfl) (by as_aux_lemma => kernel_rfl) (fun HR => ?_)
    repeat (first
      | ((with_reducible refine kg_call (f := 21) rfl ?_); refine ko_call 21 _ rfl (by rfl) Tryz.func21 (by kernel_rfl) rfl (by kernel_rfl) (by simp only [List.map_toArray, List.map_cons, List.map_nil]; rfl) (fun W hC hd => ret_below (RClip_calls _ _)) ?_; (try simp only [Act.put, lsA, lsZ, lsS, Nat.reduceAdd]))
      | ((with_reducible refine kg_load (ty := 3) rfl ?_); refine ko_get HR rfl (by rfl) (by rfl) (by repeat (first | exact At.head | apply At.tail)) Tryz.underlying3 rfl (by simp only [List.getElem?_toArray, List.getElem?_cons_succ, List.getElem?_cons_zero]; rfl) ?_; (try simp only [Act.put, lsA, lsZ, lsS, Nat.reduceAdd]))
      | (refine ko_pure rfl (by rfl) (fun W K hK => by go_simp; exact hK.out) ?_; (try simp only [Act.put, lsA, lsZ, lsS, Nat.reduceAdd]))
      | (refine ko_off (by rfl) ?_; (try simp only [Act.put, lsA, lsZ, lsS, Nat.reduceAdd])))
    refine ko_end ?_
    intro w1 H1
    clear HR H
    have H := H1
    clear H1
    (try simp only [List.map_cons, List.map_nil, cv, List.cons_append, List.nil_append] at H)
    go_wp2
    go_ret
    exact ⟨(by rw [HR.out]; try rfl), H.below⟩
  | true =>
    cases b3 with
    | false =>
      clear h1 h3 h4
      have H := Fr.start0 (M := fun _ => False) (A := fun _ => False) (w := w) (p := fun _ => True) (fun _ h => h.elim) (fun _ _ => trivial)
      go_enter Tryz.func25, Tryz.ntmps25
      go_wp2_with (first
        | ((with_reducible refine gate_dst (N := 1) rfl ?_); refine fr_box H rfl rfl rfl ?_; intro g1 w1 H1; replace H := H1; clear H1)
        | fail)
      refine ko_region0 H (by kernel_rfl) (by as_aux_lemma => kernel_rfl) (fun HR => ?_)
      repeat (first
        | ((with_reducible refine kg_call (f := 21) rfl ?_); refine ko_call 21 _ rfl (by rfl) Tryz.func21 (by kernel_rfl) rfl (by kernel_rfl) (by simp only [List.map_toArray, List.map_cons, List.map_nil]; rfl) (fun W hC hd => ret_below (RClip_calls _ _)) ?_; (try simp only [Act.put, lsA, lsZ, lsS, Nat.reduceAdd]))
        | ((with_reducible refine kg_load (ty := 3) rfl ?_); refine ko_get HR rfl (by rfl) (by rfl) (by repeat (first | exact At.head | apply At.tail)) Tryz.underlying3 rfl (by simp only [List.getElem?_toArray, List.getElem?_cons_succ, List.getElem?_cons_zero]; rfl) ?_; (try simp only [Act.put, lsA, lsZ, lsS, Nat.reduceAdd]))
        | (refine ko_pure rfl (by rfl) (fun W K hK => by go_simp; exact hK.out) ?_; (try simp only [Act.put, lsA, lsZ, lsS, Nat.reduceAdd]))
        | (refine ko_off (by rfl) ?_; (try simp only [Act.put, lsA, lsZ, lsS, Nat.reduceAdd])))
      refine ko_end ?_
      intro w1 H1
      clear HR H
      have H := H1
      clear H1
      (try simp only [List.map_cons, List.map_nil, cv, List.cons_append, List.nil_append] at H)
      go_wp2
      go_ret
      exact ⟨(by rw [HR.out]; try rfl), H.below⟩
    | true =>
      cases b4 with
      | false =>
        clear h1 h3 h4
        have H := Fr.start0 (M := fun _ => False) (A := fun _ => False) (w := w) (p := fun _ => True) (fun _ h => h.elim) (fun _ _ => trivial)
        go_enter Tryz.func25, Tryz.ntmps25
        go_wp2_with (first
          | ((with_reducible refine gate_dst (N := 1) rfl ?_); refine fr_box H rfl rfl rfl ?_; intro g1 w1 H1; replace H := H1; clear H1)
          | fail)
        refine ko_region0 H (by kernel_rfl) (by as_aux_lemma => kernel_rfl) (fun HR => ?_)
        repeat (first
          | ((with_reducible refine kg_call (f := 21) rfl ?_); refine ko_call 21 _ rfl (by rfl) Tryz.func21 (by kernel_rfl) rfl (by kernel_rfl) (by simp only [List.map_toArray, List.map_cons, List.map_nil]; rfl) (fun W hC hd => ret_below (RClip_calls _ _)) ?_; (try simp only [Act.put, lsA, lsZ, lsS, Nat.reduceAdd]))
          | ((with_reducible refine kg_load (ty := 3) rfl ?_); refine ko_get HR rfl (by rfl) (by rfl) (by repeat (first | exact At.head | apply At.tail)) Tryz.underlying3 rfl (by simp only [List.getElem?_toArray, List.getElem?_cons_succ, List.getElem?_cons_zero]; rfl) ?_; (try simp only [Act.put, lsA, lsZ, lsS, Nat.reduceAdd]))
          | (refine ko_pure rfl (by rfl) (fun W K hK => by go_simp; exact hK.out) ?_; (try simp only [Act.put, lsA, lsZ, lsS, Nat.reduceAdd]))
          | (refine ko_off (by rfl) ?_; (try simp only [Act.put, lsA, lsZ, lsS, Nat.reduceAdd])))
        refine ko_end ?_
        intro w1 H1
        clear HR H
        have H := H1
        clear H1
        (try simp only [List.map_cons, List.map_nil, cv, List.cons_append, List.nil_append] at H)
        go_wp2
        go_ret
        exact ⟨(by rw [HR.out]; try rfl), H.below⟩
      | true =>
        clear h1 h3 h4
        have H := Fr.start0 (M := fun _ => False) (A := fun _ => False) (w := w) (p := fun _ => True) (fun _ h => h.elim) (fun _ _ => trivial)
        go_enter Tryz.func25, Tryz.ntmps25
        go_wp2_with (first
          | ((with_reducible refine gate_dst (N := 1) rfl ?_); refine fr_box H rfl rfl rfl ?_; intro g1 w1 H1; replace H := H1; clear H1)
          | fail)
        refine ko_region0 H (by kernel_rfl) (by as_aux_lemma => kernel_rfl) (fun HR => ?_)
        repeat (first
          | ((with_reducible refine kg_call (f := 21) rfl ?_); refine ko_call 21 _ rfl (by rfl) Tryz.func21 (by kernel_rfl) rfl (by kernel_rfl) (by simp only [List.map_toArray, List.map_cons, List.map_nil]; rfl) (fun W hC hd => ret_below (RClip_calls _ _)) ?_; (try simp only [Act.put, lsA, lsZ, lsS, Nat.reduceAdd]))
          | ((with_reducible refine kg_load (ty := 3) rfl ?_); refine ko_get HR rfl (by rfl) (by rfl) (by repeat (first | exact At.head | apply At.tail)) Tryz.underlying3 rfl (by simp only [List.getElem?_toArray, List.getElem?_cons_succ, List.getElem?_cons_zero]; rfl) ?_; (try simp only [Act.put, lsA, lsZ, lsS, Nat.reduceAdd]))
          | (refine ko_pure rfl (by rfl) (fun W K hK => by go_simp; exact hK.out) ?_; (try simp only [Act.put, lsA, lsZ, lsS, Nat.reduceAdd]))
          | (refine ko_off (by rfl) ?_; (try simp only [Act.put, lsA, lsZ, lsS, Nat.reduceAdd])))
        refine ko_end ?_
        intro w1 H1
        clear HR H
        have H := H1
        clear H1
        (try simp only [List.map_cons, List.map_nil, cv, List.cons_append, List.nil_append] at H)
        go_wp2
        go_ret
        exact ⟨(by rw [HR.out]; try rfl), H.below⟩
set_option maxHeartbeats 1000000 in
set_option maxRecDepth 100000 in
theorem RNext_calls (t n : Int) (w : World) : Calls Tryz.prog 98 #[.agg #[.int .i64 t, .int .i64 n]] w fun e w' => e = .returned (.agg #[.int .i64 (nextP t n).1, .int .i64 (nextP t n).2]) ∧ Below w.heap.size w w' := by
  by_cases h : 1073741824 ≤ n
  · have HN := Lib.hid (show nextP t n = (sadd [t, 1], 0) by unfold nextP; rw [if_pos h])
    have d1 : decide (1073741824 ≤ n) = true := decide_eq_true h
    clear h
    have H := Fr.start0 (M := fun _ => False) (A := fun _ => False) (w := w) (p := fun _ => True) (fun _ h => h.elim) (fun _ _ => trivial)
    go_enter Tryz.func98, Tryz.ntmps98
    go_wp2_with (first
      | ((with_reducible refine gate_dst (N := 1) rfl ?_); refine fr_box H rfl rfl rfl ?_; intro g1 w1 H1; replace H := H1; clear H1)
      | ((with_reducible refine gate_dst (N := 2) rfl ?_); refine fr_new H (N := 2) rfl rfl (cs := #[.int .i64 0, .int .i64 0]) (t := 28) ?hr ?_; (case hr => first | (go_simp; done) | (go_simp; rfl)); intro g2 w2 H1; replace H := H1; clear H1)
      | ((with_reducible refine gate_dst (N := 5) rfl ?_); refine fr_get H rfl rfl rfl (by repeat (first | exact At.head | apply At.tail)) Tryz.underlying3 rfl (by simp only [List.getElem?_toArray, List.getElem?_cons_succ, List.getElem?_cons_zero]; rfl) ?_)
      | ((with_reducible refine gate_dst (N := 8) rfl ?_); refine fr_get H rfl rfl rfl (by repeat (first | exact At.head | apply At.tail)) Tryz.underlying3 rfl (by simp only [List.getElem?_toArray, List.getElem?_cons_succ, List.getElem?_cons_zero]; rfl) ?_)
      | ((with_reducible refine gate_dst (N := 9) rfl ?_); refine fr_rowv H (N := 9) rfl rfl (fun K hK => by go_simp; exact hK.out) ?_; intro x9 w9 H1; replace H := H1; clear H1)
      | ((with_reducible refine gate_store (t := 28) (p := 2) rfl ?_); refine fr_put H rfl rfl rfl rfl rfl (by repeat (first | exact At.head | apply At.tail)) (by rfl) (by kernel_rfl) (by simp [Value.oneCell']) ?_; intro w2_ H1; replace H := H1; clear H1)
      | (go_at_call 23; (with_reducible refine (RAdd2 (H.of At.head)).mono ?_); rintro e w' ⟨rfl, hb⟩; have H1 := H.call hb; clear hb; replace H := H1; clear H1)
      | fail)
    refine bodyPost_ret (results_c rfl _ _ g2 28 _ (0, 0) _ rfl (H.of (by repeat (first | exact At.head | apply At.tail))) Tryz.underlying28 rfl (by kernel_rfl)) rfl ?_
    exact ⟨(by rw [HN.out]; try rfl), H.below⟩
  · have d1 : decide (1073741824 ≤ n) = false := decide_eq_false h
    by_cases h2 : 0 < n
    · have HN := Lib.hid (show nextP t n = (clip t, n + 1) by unfold nextP; rw [if_neg h, if_neg (by omega)])
      have d2 : decide (0 < n) = true := decide_eq_true h2
      have hb1 : n < 1073741824 := by omega
      clear h
      have H := Fr.start0 (M := fun _ => False) (A := fun _ => False) (w := w) (p := fun _ => True) (fun _ h => h.elim) (fun _ _ => trivial)
      go_enter Tryz.func98, Tryz.ntmps98
      go_wp2_with (first
        | ((with_reducible refine gate_dst (N := 1) rfl ?_); refine fr_box H rfl rfl rfl ?_; intro g1 w1 H1; replace H := H1; clear H1)
        | ((with_reducible refine gate_dst (N := 2) rfl ?_); refine fr_new H (N := 2) rfl rfl (cs := #[.int .i64 0, .int .i64 0]) (t := 28) ?hr ?_; (case hr => first | (go_simp; done) | (go_simp; rfl)); intro g2 w2 H1; replace H := H1; clear H1)
        | ((with_reducible refine gate_dst (N := 5) rfl ?_); refine fr_get H rfl rfl rfl (by repeat (first | exact At.head | apply At.tail)) Tryz.underlying3 rfl (by simp only [List.getElem?_toArray, List.getElem?_cons_succ, List.getElem?_cons_zero]; rfl) ?_)
        | ((with_reducible refine gate_dst (N := 8) rfl ?_); refine fr_get H rfl rfl rfl (by repeat (first | exact At.head | apply At.tail)) Tryz.underlying3 rfl (by simp only [List.getElem?_toArray, List.getElem?_cons_succ, List.getElem?_cons_zero]; rfl) ?_)
        | ((with_reducible refine gate_dst (N := 9) rfl ?_); refine fr_rowv H (N := 9) rfl rfl (fun K hK => by go_simp; exact hK.out) ?_; intro x9 w9 H1; replace H := H1; clear H1)
        | ((with_reducible refine gate_store (t := 28) (p := 2) rfl ?_); refine fr_put H rfl rfl rfl rfl rfl (by repeat (first | exact At.head | apply At.tail)) (by rfl) (by kernel_rfl) (by simp [Value.oneCell']) ?_; intro w2_ H1; replace H := H1; clear H1)
        | ((with_reducible refine gate_dst (N := 13) rfl ?_); refine fr_get H rfl rfl rfl (by repeat (first | exact At.head | apply At.tail)) Tryz.underlying3 rfl (by simp only [List.getElem?_toArray, List.getElem?_cons_succ, List.getElem?_cons_zero]; rfl) ?_)
        | ((with_reducible refine gate_dst (N := 16) rfl ?_); refine fr_get H rfl rfl rfl (by repeat (first | exact At.head | apply At.tail)) Tryz.underlying3 rfl (by simp only [List.getElem?_toArray, List.getElem?_cons_succ, List.getElem?_cons_zero]; rfl) ?_)
        | ((with_reducible refine gate_dst (N := 19) rfl ?_); refine fr_get H rfl rfl rfl (by repeat (first | exact At.head | apply At.tail)) Tryz.underlying3 rfl (by simp only [List.getElem?_toArray, List.getElem?_cons_succ, List.getElem?_cons_zero]; rfl) ?_)
        | (go_at_call 21; (with_reducible refine (RClip_calls _ _).mono ?_); rintro e w' ⟨rfl, rfl⟩)
        | fail)
      refine bodyPost_ret (results_c rfl _ _ g2 28 _ (0, 0) _ rfl (H.of (by repeat (first | exact At.head | apply At.tail))) Tryz.underlying28 rfl (by kernel_rfl)) rfl ?_
      exact ⟨(by rw [HN.out]; try rfl), H.below⟩
    · have HN := Lib.hid (show nextP t n = (clip t, 1) by unfold nextP; rw [if_neg h]; congr 1; split <;> omega)
      have d2 : decide (0 < n) = false := decide_eq_false h2
      clear h h2
      have H := Fr.start0 (M := fun _ => False) (A := fun _ => False) (w := w) (p := fun _ => True) (fun _ h => h.elim) (fun _ _ => trivial)
      go_enter Tryz.func98, Tryz.ntmps98
      go_wp2_with (first
        | ((with_reducible refine gate_dst (N := 1) rfl ?_); refine fr_box H rfl rfl rfl ?_; intro g1 w1 H1; replace H := H1; clear H1)
        | ((with_reducible refine gate_dst (N := 2) rfl ?_); refine fr_new H (N := 2) rfl rfl (cs := #[.int .i64 0, .int .i64 0]) (t := 28) ?hr ?_; (case hr => first | (go_simp; done) | (go_simp; rfl)); intro g2 w2 H1; replace H := H1; clear H1)
        | ((with_reducible refine gate_dst (N := 5) rfl ?_); refine fr_get H rfl rfl rfl (by repeat (first | exact At.head | apply At.tail)) Tryz.underlying3 rfl (by simp only [List.getElem?_toArray, List.getElem?_cons_succ, List.getElem?_cons_zero]; rfl) ?_)
        | ((with_reducible refine gate_dst (N := 8) rfl ?_); refine fr_get H rfl rfl rfl (by repeat (first | exact At.head | apply At.tail)) Tryz.underlying3 rfl (by simp only [List.getElem?_toArray, List.getElem?_cons_succ, List.getElem?_cons_zero]; rfl) ?_)
        | ((with_reducible refine gate_dst (N := 9) rfl ?_); refine fr_rowv H (N := 9) rfl rfl (fun K hK => by go_simp; exact hK.out) ?_; intro x9 w9 H1; replace H := H1; clear H1)
        | ((with_reducible refine gate_store (t := 28) (p := 2) rfl ?_); refine fr_put H rfl rfl rfl rfl rfl (by repeat (first | exact At.head | apply At.tail)) (by rfl) (by kernel_rfl) (by simp [Value.oneCell']) ?_; intro w2_ H1; replace H := H1; clear H1)
        | ((with_reducible refine gate_dst (N := 13) rfl ?_); refine fr_get H rfl rfl rfl (by repeat (first | exact At.head | apply At.tail)) Tryz.underlying3 rfl (by simp only [List.getElem?_toArray, List.getElem?_cons_succ, List.getElem?_cons_zero]; rfl) ?_)
        | ((with_reducible refine gate_dst (N := 16) rfl ?_); refine fr_get H rfl rfl rfl (by repeat (first | exact At.head | apply At.tail)) Tryz.underlying3 rfl (by simp only [List.getElem?_toArray, List.getElem?_cons_succ, List.getElem?_cons_zero]; rfl) ?_)
        | ((with_reducible refine gate_dst (N := 19) rfl ?_); refine fr_get H rfl rfl rfl (by repeat (first | exact At.head | apply At.tail)) Tryz.underlying3 rfl (by simp only [List.getElem?_toArray, List.getElem?_cons_succ, List.getElem?_cons_zero]; rfl) ?_)
        | (go_at_call 21; (with_reducible refine (RClip_calls _ _).mono ?_); rintro e w' ⟨rfl, rfl⟩)
        | fail)
      refine bodyPost_ret (results_c rfl _ _ g2 28 _ (0, 0) _ rfl (H.of (by repeat (first | exact At.head | apply At.tail))) Tryz.underlying28 rfl (by kernel_rfl)) rfl ?_
      exact ⟨(by rw [HN.out]; try rfl), H.below⟩
set_option maxHeartbeats 1000000 in
set_option maxRecDepth 100000 in
theorem RTick_calls (t n now : Int) (w : World) : Calls Tryz.prog 82 #[.agg #[.int .i64 t, .int .i64 n], .int .i64 now] w fun e w' => e = .returned (.agg #[.int .i64 (tickP t n now).1, .int .i64 (tickP t n now).2]) ∧ Below w.heap.size w w' := by
  by_cases h : t < clip now
  · have HN := Lib.hid (show tickP t n now = (clip now, 0) by unfold tickP; rw [if_pos h])
    have d1 : decide (t < clip now) = true := decide_eq_true h
    clear h
    have H := Fr.start0 (M := fun _ => False) (A := fun _ => False) (w := w) (p := fun _ => True) (fun _ h => h.elim) (fun _ _ => trivial)
    go_enter Tryz.func82, Tryz.ntmps82
    go_wp2_with (first
      | ((with_reducible refine gate_dst (N := 2) rfl ?_); refine fr_box H rfl rfl rfl ?_; intro g2 w2 H1; replace H := H1; clear H1)
      | ((with_reducible refine gate_dst (N := 4) rfl ?_); refine fr_new H (N := 4) rfl rfl (cs := #[.int .i64 0, .int .i64 0]) (t := 28) ?hr ?_; (case hr => first | (go_simp; done) | (go_simp; rfl)); intro g4 w4 H1; replace H := H1; clear H1)
      | fail)
    refine ko_region0 H (by kernel_rfl) (by as_aux_lemma => kernel_rfl) (fun HR => ?_)
    repeat (first
      | ((with_reducible refine kg_call (f := 21) rfl ?_); refine ko_call 21 _ rfl (by rfl) Tryz.func21 (by kernel_rfl) rfl (by kernel_rfl) (by simp only [List.map_toArray, List.map_cons, List.map_nil]; rfl) (fun W hC hd => ret_below (RClip_calls _ _)) ?_; (try simp only [Act.put, lsA, lsZ, lsS, Nat.reduceAdd]))
      | ((with_reducible refine kg_load (ty := 3) rfl ?_); refine ko_get HR rfl (by rfl) (by rfl) (by repeat (first | exact At.head | apply At.tail)) Tryz.underlying3 rfl (by simp only [List.getElem?_toArray, List.getElem?_cons_succ, List.getElem?_cons_zero]; rfl) ?_; (try simp only [Act.put, lsA, lsZ, lsS, Nat.reduceAdd]))
      | (refine ko_pure rfl (by rfl) (fun W K hK => by go_simp; exact hK.out) ?_; (try simp only [Act.put, lsA, lsZ, lsS, Nat.reduceAdd]))
      | (refine ko_off (by rfl) ?_; (try simp only [Act.put, lsA, lsZ, lsS, Nat.reduceAdd])))
    refine ko_end ?_
    intro w1 H1
    clear HR H
    have H := H1
    clear H1
    (try simp only [List.map_cons, List.map_nil, cv, List.cons_append, List.nil_append] at H)
    go_wp2_with (first
      | ((with_reducible refine gate_store (t := 28) (p := 4) rfl ?_); refine fr_put H rfl rfl rfl rfl rfl (by repeat (first | exact At.head | apply At.tail)) (by rfl) (by kernel_rfl) (by simp [Value.oneCell']) ?_; intro w4_ H1; replace H := H1; clear H1)
      | (go_at_call 21; (with_reducible refine (RClip_calls _ _).mono ?_); rintro e w' ⟨rfl, rfl⟩)
      | fail)
    refine bodyPost_ret (results_c rfl _ _ g4 28 _ (0, 0) _ rfl (H.of (by repeat (first | exact At.head | apply At.tail))) Tryz.underlying28 rfl (by kernel_rfl)) rfl ?_
    exact ⟨(by rw [HN.out]; try rfl), H.below⟩
  · have HN := Lib.hid (show tickP t n now = nextP t n by unfold tickP; rw [if_neg h])
    have d1 : decide (t < clip now) = false := decide_eq_false h
    clear h
    have H := Fr.start0 (M := fun _ => False) (A := fun _ => False) (w := w) (p := fun _ => True) (fun _ h => h.elim) (fun _ _ => trivial)
    go_enter Tryz.func82, Tryz.ntmps82
    go_wp2_with (first
      | ((with_reducible refine gate_dst (N := 2) rfl ?_); refine fr_box H rfl rfl rfl ?_; intro g2 w2 H1; replace H := H1; clear H1)
      | ((with_reducible refine gate_dst (N := 4) rfl ?_); refine fr_new H (N := 4) rfl rfl (cs := #[.int .i64 0, .int .i64 0]) (t := 28) ?hr ?_; (case hr => first | (go_simp; done) | (go_simp; rfl)); intro g4 w4 H1; replace H := H1; clear H1)
      | fail)
    refine ko_region0 H (by kernel_rfl) (by as_aux_lemma => kernel_rfl) (fun HR => ?_)
    repeat (first
      | ((with_reducible refine kg_call (f := 21) rfl ?_); refine ko_call 21 _ rfl (by rfl) Tryz.func21 (by kernel_rfl) rfl (by kernel_rfl) (by simp only [List.map_toArray, List.map_cons, List.map_nil]; rfl) (fun W hC hd => ret_below (RClip_calls _ _)) ?_; (try simp only [Act.put, lsA, lsZ, lsS, Nat.reduceAdd]))
      | ((with_reducible refine kg_load (ty := 3) rfl ?_); refine ko_get HR rfl (by rfl) (by rfl) (by repeat (first | exact At.head | apply At.tail)) Tryz.underlying3 rfl (by simp only [List.getElem?_toArray, List.getElem?_cons_succ, List.getElem?_cons_zero]; rfl) ?_; (try simp only [Act.put, lsA, lsZ, lsS, Nat.reduceAdd]))
      | (refine ko_pure rfl (by rfl) (fun W K hK => by go_simp; exact hK.out) ?_; (try simp only [Act.put, lsA, lsZ, lsS, Nat.reduceAdd]))
      | (refine ko_off (by rfl) ?_; (try simp only [Act.put, lsA, lsZ, lsS, Nat.reduceAdd])))
    refine ko_end ?_
    intro w1 H1
    clear HR H
    have H := H1
    clear H1
    (try simp only [List.map_cons, List.map_nil, cv, List.cons_append, List.nil_append] at H)
    go_wp2_with (first
      | ((with_reducible refine gate_dst (N := 13) rfl ?_); refine fr_sub H (n := 2) rfl rfl rfl (by repeat (first | exact At.head | apply At.tail)) Tryz.underlying28 rfl (by kernel_rfl) (by simp only [List.toList_toArray, List.drop_succ_cons, List.drop_zero, List.take_succ_cons, List.take_zero]; rfl) (by rfl) ?_)
      | ((with_reducible refine gate_store (t := 28) (p := 4) rfl ?_); refine fr_put H rfl rfl rfl rfl rfl (by repeat (first | exact At.head | apply At.tail)) (by rfl) (by kernel_rfl) (by simp [Value.oneCell']) ?_; intro w4_ H1; replace H := H1; clear H1)
      | (go_at_call 98; (with_reducible refine (RNext_calls _ _ _).mono ?_); rintro e w' ⟨rfl, hb⟩; have H1 := H.call hb; clear hb; replace H := H1; clear H1)
      | fail)
    refine bodyPost_ret (results_c rfl _ _ g4 28 _ (0, 0) _ rfl (H.of (by repeat (first | exact At.head | apply At.tail))) Tryz.underlying28 rfl (by kernel_rfl)) rfl ?_
    exact ⟨(by rw [HN.out]; try rfl), H.below⟩
set_option maxHeartbeats 2000000 in
set_option maxRecDepth 100000 in
theorem ROf_calls (p : Par) (lo hi time : Int) (set : Bool) (held hops : Int) (good : Bool) (A : Option Addr) (n c : Nat) (st sn life : Int) (w : World) :
    Calls Tryz.prog 75 #[.agg #[.int .i64 p.N, .int .i64 p.F, .int .i64 p.D, .int .i64 p.Be, .int .i64 p.Rho, .int .i64 p.De, .int .i64 p.Ji, .int .i64 p.Eps, .int .i64 p.Mu, .int .i64 p.Ho, .int .i64 p.Pu, .int .i64 p.Se], .agg #[.int .i64 lo, .int .i64 hi, .int .i64 time, .bool set, .int .i64 held, .int .i64 hops, .bool good, .slice A n c, .int .i64 st, .int .i64 sn, .int .i64 life]] w fun e w' => e = .returned (.int .i64 (ofP p set good held hops)) ∧ Below w.heap.size w w' := by
  cases good with
  | false =>
    have HO := Lib.hid (show ofP p set false held hops = 0 by unfold ofP; simp)
    have h1 : True := trivial
    clear h1
    have H := Fr.start0 (M := fun _ => False) (A := fun _ => False) (w := w) (p := fun _ => True) (fun _ h => h.elim) (fun _ _ => trivial)
    go_enter Tryz.func75, Tryz.ntmps75
    go_wp2_with (first
      | ((with_reducible refine gate_dst (N := 2) rfl ?_); refine fr_box H rfl rfl rfl ?_; intro g2 w2 H1; replace H := H1; clear H1)
      | ((with_reducible refine gate_dst (N := 3) rfl ?_); refine fr_box H rfl rfl rfl ?_; intro g3 w3 H1; replace H := H1; clear H1)
      | ((with_reducible refine gate_dst (N := 6) rfl ?_); refine fr_get H rfl rfl rfl (by repeat (first | exact At.head | apply At.tail)) Tryz.underlying4 rfl (by simp only [List.getElem?_toArray, List.getElem?_cons_succ, List.getElem?_cons_zero]; rfl) ?_)
      | ((with_reducible refine gate_dst (N := 10) rfl ?_); (try (refine gate_guard (by rfl) ?_; dsimp only)); refine fr_get H rfl rfl rfl (by repeat (first | exact At.head | apply At.tail)) Tryz.underlying4 rfl (by simp only [List.getElem?_toArray, List.getElem?_cons_succ, List.getElem?_cons_zero]; rfl) ?_)
      | ((with_reducible refine gate_dst (N := 15) rfl ?_); (try (refine gate_guard (by rfl) ?_; dsimp only)); refine fr_get H rfl rfl rfl (by repeat (first | exact At.head | apply At.tail)) Tryz.underlying3 rfl (by simp only [List.getElem?_toArray, List.getElem?_cons_succ, List.getElem?_cons_zero]; rfl) ?_)
      | ((with_reducible refine gate_dst (N := 17) rfl ?_); (try (refine gate_guard (by rfl) ?_; dsimp only)); refine fr_get H rfl rfl rfl (by repeat (first | exact At.head | apply At.tail)) Tryz.underlying3 rfl (by simp only [List.getElem?_toArray, List.getElem?_cons_succ, List.getElem?_cons_zero]; rfl) ?_)
      | ((with_reducible refine gate_dst (N := 21) rfl ?_); refine fr_get H rfl rfl rfl (by repeat (first | exact At.head | apply At.tail)) Tryz.underlying3 rfl (by simp only [List.getElem?_toArray, List.getElem?_cons_succ, List.getElem?_cons_zero]; rfl) ?_)
      | ((with_reducible refine gate_dst (N := 23) rfl ?_); refine fr_get H rfl rfl rfl (by repeat (first | exact At.head | apply At.tail)) Tryz.underlying3 rfl (by simp only [List.getElem?_toArray, List.getElem?_cons_succ, List.getElem?_cons_zero]; rfl) ?_)
      | fail)
    go_ret
    exact ⟨(by rw [HO.out]; try rfl), H.below⟩
  | true =>
    cases set with
    | false =>
      have HO := Lib.hid (show ofP p false true held hops = 0 by unfold ofP; simp)
      have h1 : True := trivial
      clear h1
      have H := Fr.start0 (M := fun _ => False) (A := fun _ => False) (w := w) (p := fun _ => True) (fun _ h => h.elim) (fun _ _ => trivial)
      go_enter Tryz.func75, Tryz.ntmps75
      go_wp2_with (first
        | ((with_reducible refine gate_dst (N := 2) rfl ?_); refine fr_box H rfl rfl rfl ?_; intro g2 w2 H1; replace H := H1; clear H1)
        | ((with_reducible refine gate_dst (N := 3) rfl ?_); refine fr_box H rfl rfl rfl ?_; intro g3 w3 H1; replace H := H1; clear H1)
        | ((with_reducible refine gate_dst (N := 6) rfl ?_); refine fr_get H rfl rfl rfl (by repeat (first | exact At.head | apply At.tail)) Tryz.underlying4 rfl (by simp only [List.getElem?_toArray, List.getElem?_cons_succ, List.getElem?_cons_zero]; rfl) ?_)
        | ((with_reducible refine gate_dst (N := 10) rfl ?_); (try (refine gate_guard (by rfl) ?_; dsimp only)); refine fr_get H rfl rfl rfl (by repeat (first | exact At.head | apply At.tail)) Tryz.underlying4 rfl (by simp only [List.getElem?_toArray, List.getElem?_cons_succ, List.getElem?_cons_zero]; rfl) ?_)
        | ((with_reducible refine gate_dst (N := 15) rfl ?_); (try (refine gate_guard (by rfl) ?_; dsimp only)); refine fr_get H rfl rfl rfl (by repeat (first | exact At.head | apply At.tail)) Tryz.underlying3 rfl (by simp only [List.getElem?_toArray, List.getElem?_cons_succ, List.getElem?_cons_zero]; rfl) ?_)
        | ((with_reducible refine gate_dst (N := 17) rfl ?_); (try (refine gate_guard (by rfl) ?_; dsimp only)); refine fr_get H rfl rfl rfl (by repeat (first | exact At.head | apply At.tail)) Tryz.underlying3 rfl (by simp only [List.getElem?_toArray, List.getElem?_cons_succ, List.getElem?_cons_zero]; rfl) ?_)
        | ((with_reducible refine gate_dst (N := 21) rfl ?_); refine fr_get H rfl rfl rfl (by repeat (first | exact At.head | apply At.tail)) Tryz.underlying3 rfl (by simp only [List.getElem?_toArray, List.getElem?_cons_succ, List.getElem?_cons_zero]; rfl) ?_)
        | ((with_reducible refine gate_dst (N := 23) rfl ?_); refine fr_get H rfl rfl rfl (by repeat (first | exact At.head | apply At.tail)) Tryz.underlying3 rfl (by simp only [List.getElem?_toArray, List.getElem?_cons_succ, List.getElem?_cons_zero]; rfl) ?_)
        | fail)
      go_ret
      exact ⟨(by rw [HO.out]; try rfl), H.below⟩
    | true =>
      by_cases h1 : p.D < hops
      · have d1 : decide (p.D < hops) = true := decide_eq_true h1
        have HO := Lib.hid (show ofP p true true held hops = 0 by unfold ofP; simp [h1])
        clear h1
        have H := Fr.start0 (M := fun _ => False) (A := fun _ => False) (w := w) (p := fun _ => True) (fun _ h => h.elim) (fun _ _ => trivial)
        go_enter Tryz.func75, Tryz.ntmps75
        go_wp2_with (first
          | ((with_reducible refine gate_dst (N := 2) rfl ?_); refine fr_box H rfl rfl rfl ?_; intro g2 w2 H1; replace H := H1; clear H1)
          | ((with_reducible refine gate_dst (N := 3) rfl ?_); refine fr_box H rfl rfl rfl ?_; intro g3 w3 H1; replace H := H1; clear H1)
          | ((with_reducible refine gate_dst (N := 6) rfl ?_); refine fr_get H rfl rfl rfl (by repeat (first | exact At.head | apply At.tail)) Tryz.underlying4 rfl (by simp only [List.getElem?_toArray, List.getElem?_cons_succ, List.getElem?_cons_zero]; rfl) ?_)
          | ((with_reducible refine gate_dst (N := 10) rfl ?_); (try (refine gate_guard (by rfl) ?_; dsimp only)); refine fr_get H rfl rfl rfl (by repeat (first | exact At.head | apply At.tail)) Tryz.underlying4 rfl (by simp only [List.getElem?_toArray, List.getElem?_cons_succ, List.getElem?_cons_zero]; rfl) ?_)
          | ((with_reducible refine gate_dst (N := 15) rfl ?_); (try (refine gate_guard (by rfl) ?_; dsimp only)); refine fr_get H rfl rfl rfl (by repeat (first | exact At.head | apply At.tail)) Tryz.underlying3 rfl (by simp only [List.getElem?_toArray, List.getElem?_cons_succ, List.getElem?_cons_zero]; rfl) ?_)
          | ((with_reducible refine gate_dst (N := 17) rfl ?_); (try (refine gate_guard (by rfl) ?_; dsimp only)); refine fr_get H rfl rfl rfl (by repeat (first | exact At.head | apply At.tail)) Tryz.underlying3 rfl (by simp only [List.getElem?_toArray, List.getElem?_cons_succ, List.getElem?_cons_zero]; rfl) ?_)
          | ((with_reducible refine gate_dst (N := 21) rfl ?_); refine fr_get H rfl rfl rfl (by repeat (first | exact At.head | apply At.tail)) Tryz.underlying3 rfl (by simp only [List.getElem?_toArray, List.getElem?_cons_succ, List.getElem?_cons_zero]; rfl) ?_)
          | ((with_reducible refine gate_dst (N := 23) rfl ?_); refine fr_get H rfl rfl rfl (by repeat (first | exact At.head | apply At.tail)) Tryz.underlying3 rfl (by simp only [List.getElem?_toArray, List.getElem?_cons_succ, List.getElem?_cons_zero]; rfl) ?_)
          | fail)
        go_ret
        exact ⟨(by rw [HO.out]; try rfl), H.below⟩
      · have d1 : decide (p.D < hops) = false := decide_eq_false h1
        by_cases h2 : p.Ho < held
        · have d2 : decide (p.Ho < held) = true := decide_eq_true h2
          have HO := Lib.hid (show ofP p true true held hops = 2 by unfold ofP; simp [h1, h2])
          clear h2
          clear h1
          have H := Fr.start0 (M := fun _ => False) (A := fun _ => False) (w := w) (p := fun _ => True) (fun _ h => h.elim) (fun _ _ => trivial)
          go_enter Tryz.func75, Tryz.ntmps75
          go_wp2_with (first
            | ((with_reducible refine gate_dst (N := 2) rfl ?_); refine fr_box H rfl rfl rfl ?_; intro g2 w2 H1; replace H := H1; clear H1)
            | ((with_reducible refine gate_dst (N := 3) rfl ?_); refine fr_box H rfl rfl rfl ?_; intro g3 w3 H1; replace H := H1; clear H1)
            | ((with_reducible refine gate_dst (N := 6) rfl ?_); refine fr_get H rfl rfl rfl (by repeat (first | exact At.head | apply At.tail)) Tryz.underlying4 rfl (by simp only [List.getElem?_toArray, List.getElem?_cons_succ, List.getElem?_cons_zero]; rfl) ?_)
            | ((with_reducible refine gate_dst (N := 10) rfl ?_); (try (refine gate_guard (by rfl) ?_; dsimp only)); refine fr_get H rfl rfl rfl (by repeat (first | exact At.head | apply At.tail)) Tryz.underlying4 rfl (by simp only [List.getElem?_toArray, List.getElem?_cons_succ, List.getElem?_cons_zero]; rfl) ?_)
            | ((with_reducible refine gate_dst (N := 15) rfl ?_); (try (refine gate_guard (by rfl) ?_; dsimp only)); refine fr_get H rfl rfl rfl (by repeat (first | exact At.head | apply At.tail)) Tryz.underlying3 rfl (by simp only [List.getElem?_toArray, List.getElem?_cons_succ, List.getElem?_cons_zero]; rfl) ?_)
            | ((with_reducible refine gate_dst (N := 17) rfl ?_); (try (refine gate_guard (by rfl) ?_; dsimp only)); refine fr_get H rfl rfl rfl (by repeat (first | exact At.head | apply At.tail)) Tryz.underlying3 rfl (by simp only [List.getElem?_toArray, List.getElem?_cons_succ, List.getElem?_cons_zero]; rfl) ?_)
            | ((with_reducible refine gate_dst (N := 21) rfl ?_); refine fr_get H rfl rfl rfl (by repeat (first | exact At.head | apply At.tail)) Tryz.underlying3 rfl (by simp only [List.getElem?_toArray, List.getElem?_cons_succ, List.getElem?_cons_zero]; rfl) ?_)
            | ((with_reducible refine gate_dst (N := 23) rfl ?_); refine fr_get H rfl rfl rfl (by repeat (first | exact At.head | apply At.tail)) Tryz.underlying3 rfl (by simp only [List.getElem?_toArray, List.getElem?_cons_succ, List.getElem?_cons_zero]; rfl) ?_)
            | fail)
          go_ret
          exact ⟨(by rw [HO.out]; try rfl), H.below⟩
        · have d2 : decide (p.Ho < held) = false := decide_eq_false h2
          have HO := Lib.hid (show ofP p true true held hops = 1 by unfold ofP; simp [h1, h2])
          clear h2
          clear h1
          have H := Fr.start0 (M := fun _ => False) (A := fun _ => False) (w := w) (p := fun _ => True) (fun _ h => h.elim) (fun _ _ => trivial)
          go_enter Tryz.func75, Tryz.ntmps75
          go_wp2_with (first
            | ((with_reducible refine gate_dst (N := 2) rfl ?_); refine fr_box H rfl rfl rfl ?_; intro g2 w2 H1; replace H := H1; clear H1)
            | ((with_reducible refine gate_dst (N := 3) rfl ?_); refine fr_box H rfl rfl rfl ?_; intro g3 w3 H1; replace H := H1; clear H1)
            | ((with_reducible refine gate_dst (N := 6) rfl ?_); refine fr_get H rfl rfl rfl (by repeat (first | exact At.head | apply At.tail)) Tryz.underlying4 rfl (by simp only [List.getElem?_toArray, List.getElem?_cons_succ, List.getElem?_cons_zero]; rfl) ?_)
            | ((with_reducible refine gate_dst (N := 10) rfl ?_); (try (refine gate_guard (by rfl) ?_; dsimp only)); refine fr_get H rfl rfl rfl (by repeat (first | exact At.head | apply At.tail)) Tryz.underlying4 rfl (by simp only [List.getElem?_toArray, List.getElem?_cons_succ, List.getElem?_cons_zero]; rfl) ?_)
            | ((with_reducible refine gate_dst (N := 15) rfl ?_); (try (refine gate_guard (by rfl) ?_; dsimp only)); refine fr_get H rfl rfl rfl (by repeat (first | exact At.head | apply At.tail)) Tryz.underlying3 rfl (by simp only [List.getElem?_toArray, List.getElem?_cons_succ, List.getElem?_cons_zero]; rfl) ?_)
            | ((with_reducible refine gate_dst (N := 17) rfl ?_); (try (refine gate_guard (by rfl) ?_; dsimp only)); refine fr_get H rfl rfl rfl (by repeat (first | exact At.head | apply At.tail)) Tryz.underlying3 rfl (by simp only [List.getElem?_toArray, List.getElem?_cons_succ, List.getElem?_cons_zero]; rfl) ?_)
            | ((with_reducible refine gate_dst (N := 21) rfl ?_); refine fr_get H rfl rfl rfl (by repeat (first | exact At.head | apply At.tail)) Tryz.underlying3 rfl (by simp only [List.getElem?_toArray, List.getElem?_cons_succ, List.getElem?_cons_zero]; rfl) ?_)
            | ((with_reducible refine gate_dst (N := 23) rfl ?_); refine fr_get H rfl rfl rfl (by repeat (first | exact At.head | apply At.tail)) Tryz.underlying3 rfl (by simp only [List.getElem?_toArray, List.getElem?_cons_succ, List.getElem?_cons_zero]; rfl) ?_)
            | fail)
          go_ret
          exact ⟨(by rw [HO.out]; try rfl), H.below⟩
set_option maxHeartbeats 4000000 in
set_option maxRecDepth 100000 in
theorem RFar_calls (p : Par) (held : Int) (w : World) : Calls Tryz.prog 97 #[.agg #[.int .i64 p.N, .int .i64 p.F, .int .i64 p.D, .int .i64 p.Be, .int .i64 p.Rho, .int .i64 p.De, .int .i64 p.Ji, .int .i64 p.Eps, .int .i64 p.Mu, .int .i64 p.Ho, .int .i64 p.Pu, .int .i64 p.Se], .int .i64 held] w fun e w' => e = .returned (.int .i64 (farP p held)) ∧ Below w.heap.size w w' := by
  have H := Fr.start0 (M := fun _ => False) (A := fun _ => False) (w := w) (p := fun _ => True) (fun _ h => h.elim) (fun _ _ => trivial)
  go_enter Tryz.func97, Tryz.ntmps97
  go_wp2_with (first
    | ((with_reducible refine gate_dst (N := 2) rfl ?_); refine fr_box H rfl rfl rfl ?_; intro g2 w2 H1; replace H := H1; clear H1)
    | fail)
  refine ko_region0 H (by kernel_rfl) (by as_aux_lemma => kernel_rfl) (fun HR => ?_)
  repeat (first
    | ((with_reducible refine kg_call (f := 110) rfl ?_); refine ko_call 110 _ rfl (by rfl) Tryz.func110 (by kernel_rfl) rfl (by kernel_rfl) (by simp only [List.map_toArray, List.map_cons, List.map_nil]; rfl) (fun W hC hd => RMax2 (by first | exact depH.hd hd (by kernel_rfl) | exact depH.hd (depH.tl hd) (by kernel_rfl) | exact depH.hd (depH.tl (depH.tl hd)) (by kernel_rfl))) ?_; (try simp only [Act.put, lsA, lsZ, lsS, Nat.reduceAdd]))
    | ((with_reducible refine kg_call (f := 108) rfl ?_); refine ko_call 108 _ rfl (by rfl) Tryz.func108 (by kernel_rfl) rfl (by kernel_rfl) (by simp only [List.map_toArray, List.map_cons, List.map_nil]; rfl) (fun W hC hd => ret_below (RMul_calls _ _ _)) ?_; (try simp only [Act.put, lsA, lsZ, lsS, Nat.reduceAdd]))
    | ((with_reducible refine kg_call (f := 109) rfl ?_); refine ko_call 109 _ rfl (by rfl) Tryz.func109 (by kernel_rfl) rfl (by kernel_rfl) (by simp only [List.map_toArray, List.map_cons, List.map_nil]; rfl) (fun W hC hd => RWidth_calls p _ _ _) ?_; (try simp only [Act.put, lsA, lsZ, lsS, Nat.reduceAdd]))
    | ((with_reducible refine kg_load (ty := 23) rfl ?_); refine ko_sub HR (n := 12) rfl (by rfl) (by rfl) (by repeat (first | exact At.head | apply At.tail)) Tryz.underlying23 rfl (by kernel_rfl) (by simp only [List.toList_toArray, List.drop_succ_cons, List.drop_zero, List.take_succ_cons, List.take_zero]; rfl) (by rfl) ?_; (try simp only [Act.put, lsA, lsZ, lsS, Nat.reduceAdd]))
    | ((with_reducible refine kg_load (ty := 3) rfl ?_); refine ko_get HR rfl (by rfl) (by rfl) (by repeat (first | exact At.head | apply At.tail)) Tryz.underlying3 rfl (by simp only [List.getElem?_toArray, List.getElem?_cons_succ, List.getElem?_cons_zero]; rfl) ?_; (try simp only [Act.put, lsA, lsZ, lsS, Nat.reduceAdd]))
    | ((with_reducible refine kg_dst (N := 9) rfl ?_); refine ko_row rfl (by rfl) (fun W K hK => by go_simp; exact hK.out) ?_; intro x9; (try simp only [Act.put, lsA, lsZ, lsS, Nat.reduceAdd]))
    | (refine ko_pure rfl (by rfl) (fun W K hK => by go_simp; exact hK.out) ?_; (try simp only [Act.put, lsA, lsZ, lsS, Nat.reduceAdd]))
    | (refine ko_off (by rfl) ?_; (try simp only [Act.put, lsA, lsZ, lsS, Nat.reduceAdd])))
  refine ko_end ?_
  intro w1 H1
  clear HR H
  have H := H1
  clear H1
  (try simp only [List.map_cons, List.map_nil, cv, List.cons_append, List.nil_append] at H)
  go_wp2
  go_ret
  exact ⟨rfl, H.below⟩
set_option maxHeartbeats 4000000 in
set_option maxRecDepth 100000 in
theorem RMostT_calls (p : Par) (s : St) (A : Option Addr) (c : Nat) (w : World) : Calls Tryz.prog 81 #[.agg #[.int .i64 p.N, .int .i64 p.F, .int .i64 p.D, .int .i64 p.Be, .int .i64 p.Rho, .int .i64 p.De, .int .i64 p.Ji, .int .i64 p.Eps, .int .i64 p.Mu, .int .i64 p.Ho, .int .i64 p.Pu, .int .i64 p.Se], .agg #[.int .i64 s.lo, .int .i64 s.hi, .int .i64 s.time, .bool s.set, .int .i64 s.held, .int .i64 s.hops, .bool s.good, .slice A s.tab.length c, .int .i64 s.st, .int .i64 s.sn, .int .i64 s.life]] w fun e w' => e = .returned (.int .i64 (sadd [s.hi, farP p s.held])) ∧ Below w.heap.size w w' := by
  obtain ⟨lo, hi, time, set, held, hops, good, tab, st, sn, life⟩ := s
  dsimp only
  have H := Fr.start0 (M := fun _ => False) (A := fun _ => False) (w := w) (p := fun _ => True) (fun _ h => h.elim) (fun _ _ => trivial)
  go_enter Tryz.func81, Tryz.ntmps81
  go_wp2_with (first
    | ((with_reducible refine gate_dst (N := 2) rfl ?_); refine fr_box H rfl rfl rfl ?_; intro g2 w2 H1; replace H := H1; clear H1)
    | ((with_reducible refine gate_dst (N := 3) rfl ?_); refine fr_box H rfl rfl rfl ?_; intro g3 w3 H1; replace H := H1; clear H1)
    | fail)
  refine ko_region0 H (by kernel_rfl) (by as_aux_lemma => kernel_rfl) (fun HR => ?_)
  repeat (first
    | ((with_reducible refine kg_call (f := 23) rfl ?_); refine ko_call 23 _ rfl (by rfl) Tryz.func23 (by kernel_rfl) rfl (by kernel_rfl) (by simp only [List.map_toArray, List.map_cons, List.map_nil]; rfl) (fun W hC hd => RAdd2 (by first | exact depH.hd hd (by kernel_rfl) | exact depH.hd (depH.tl hd) (by kernel_rfl) | exact depH.hd (depH.tl (depH.tl hd)) (by kernel_rfl))) ?_; (try simp only [Act.put, lsA, lsZ, lsS, Nat.reduceAdd]))
    | ((with_reducible refine kg_call (f := 97) rfl ?_); refine ko_call 97 _ rfl (by rfl) Tryz.func97 (by kernel_rfl) rfl (by kernel_rfl) (by simp only [List.map_toArray, List.map_cons, List.map_nil]; rfl) (fun W hC hd => RFar_calls p _ _) ?_; (try simp only [Act.put, lsA, lsZ, lsS, Nat.reduceAdd]))
    | ((with_reducible refine kg_load (ty := 3) rfl ?_); refine ko_get HR rfl (by rfl) (by rfl) (by repeat (first | exact At.head | apply At.tail)) Tryz.underlying3 rfl (by simp only [List.getElem?_toArray, List.getElem?_cons_succ, List.getElem?_cons_zero]; rfl) ?_; (try simp only [Act.put, lsA, lsZ, lsS, Nat.reduceAdd]))
    | ((with_reducible refine kg_load (ty := 23) rfl ?_); refine ko_sub HR (n := 12) rfl (by rfl) (by rfl) (by repeat (first | exact At.head | apply At.tail)) Tryz.underlying23 rfl (by kernel_rfl) (by simp only [List.toList_toArray, List.drop_succ_cons, List.drop_zero, List.take_succ_cons, List.take_zero]; rfl) (by rfl) ?_; (try simp only [Act.put, lsA, lsZ, lsS, Nat.reduceAdd]))
    | ((with_reducible refine kg_dst (N := 12) rfl ?_); refine ko_row rfl (by rfl) (fun W K hK => by go_simp; exact hK.out) ?_; intro x12; (try simp only [Act.put, lsA, lsZ, lsS, Nat.reduceAdd]))
    | (refine ko_pure rfl (by rfl) (fun W K hK => by go_simp; exact hK.out) ?_; (try simp only [Act.put, lsA, lsZ, lsS, Nat.reduceAdd]))
    | (refine ko_off (by rfl) ?_; (try simp only [Act.put, lsA, lsZ, lsS, Nat.reduceAdd])))
  refine ko_end ?_
  intro w1 H1
  clear HR H
  have H := H1
  clear H1
  (try simp only [List.map_cons, List.map_nil, cv, List.cons_append, List.nil_append] at H)
  go_wp2
  go_ret
  exact ⟨rfl, H.below⟩
set_option maxHeartbeats 4000000 in
set_option maxRecDepth 100000 in
theorem RStamped_calls (s : St) (A : Option Addr) (c : Nat) (w : World) : Calls Tryz.prog 77 #[.agg #[.int .i64 s.lo, .int .i64 s.hi, .int .i64 s.time, .bool s.set, .int .i64 s.held, .int .i64 s.hops, .bool s.good, .slice A s.tab.length c, .int .i64 s.st, .int .i64 s.sn, .int .i64 s.life]] w fun e w' => e = .returned (.agg #[.int .i64 s.lo, .int .i64 s.hi, .int .i64 s.time, .bool s.set, .int .i64 s.held, .int .i64 s.hops, .bool s.good, .slice A s.tab.length c, .int .i64 (tickP s.st s.sn s.time).1, .int .i64 (tickP s.st s.sn s.time).2, .int .i64 s.life]) ∧ Below w.heap.size w w' := by
  obtain ⟨lo, hi, time, set, held, hops, good, tab, st, sn, life⟩ := s
  dsimp only
  obtain ⟨n, hn⟩ : ∃ n, tab.length = n := ⟨_, rfl⟩
  rw [hn]
  clear hn
  have H := Fr.start0 (M := fun _ => False) (A := fun _ => False) (w := w) (p := fun _ => True) (fun _ h => h.elim) (fun _ _ => trivial)
  go_enter Tryz.func77, Tryz.ntmps77
  go_wp2_with (first
    | (go_at_call 82; (with_reducible refine (RTick_calls _ _ _ _).mono ?_); rintro e w' ⟨rfl, hb⟩; have H1 := H.call hb; clear hb; replace H := H1; clear H1)
    | ((with_reducible refine gate_dst (N := 1) rfl ?_); refine fr_box H rfl rfl rfl ?_; intro g1 w1 H1; replace H := H1; clear H1)
    | ((with_reducible refine gate_dst (N := 2) rfl ?_); refine fr_new H (N := 2) rfl rfl (cs := #[.int .i64 0, .int .i64 0, .int .i64 0, .bool false, .int .i64 0, .int .i64 0, .bool false, .slice none 0 0, .int .i64 0, .int .i64 0, .int .i64 0]) (t := 30) ?hr ?_; (case hr => first | (go_simp; done) | (go_simp; rfl)); intro g2 w2 H1; replace H := H1; clear H1)
    | ((with_reducible refine gate_dst (N := 4) rfl ?_); refine fr_sub H (n := 2) rfl rfl rfl (by repeat (first | exact At.head | apply At.tail)) Tryz.underlying28 rfl (by kernel_rfl) (by simp only [List.toList_toArray, List.drop_succ_cons, List.drop_zero, List.take_succ_cons, List.take_zero]; rfl) (by rfl) ?_)
    | ((with_reducible refine gate_dst (N := 6) rfl ?_); refine fr_get H rfl rfl rfl (by repeat (first | exact At.head | apply At.tail)) Tryz.underlying3 rfl (by simp only [List.getElem?_toArray, List.getElem?_cons_succ, List.getElem?_cons_zero]; rfl) ?_)
    | ((with_reducible refine gate_store (t := 28) (p := 8) rfl ?_); refine fr_set H (u := .agg (List.toArray _)) rfl rfl rfl rfl rfl (by repeat (first | exact At.head | apply At.tail)) (Nat.le_of_ble_eq_true rfl) (by simp only [Value.cells, List.take_succ_cons, List.take_zero, List.drop_succ_cons, List.drop_zero, List.cons_append, List.nil_append, List.size_toArray, List.length_cons, List.length_nil, Nat.reduceAdd, List.append_nil, List.drop_nil, List.take_nil, List.toList_toArray]; rfl) (by kernel_rfl) (by simp [Value.cells, Value.oneCell']) ?_; intro w8_ H1; replace H := H1; clear H1)
    | ((with_reducible refine gate_dst (N := 9) rfl ?_); refine fr_sub H (n := 11) rfl rfl rfl (by repeat (first | exact At.head | apply At.tail)) Tryz.underlying30 rfl (by kernel_rfl) (by simp only [List.toList_toArray, List.drop_succ_cons, List.drop_zero, List.take_succ_cons, List.take_zero]; rfl) (by rfl) ?_)
    | ((with_reducible refine gate_store (t := 30) (p := 2) rfl ?_); refine fr_put H rfl rfl rfl rfl rfl (by repeat (first | exact At.head | apply At.tail)) (by rfl) (by kernel_rfl) (by simp [Value.oneCell']) ?_; intro w2_ H1; replace H := H1; clear H1)
    | fail)
  refine bodyPost_ret (results_c rfl _ _ g2 30 _ (0, 0) _ rfl (H.of (by repeat (first | exact At.head | apply At.tail))) Tryz.underlying30 rfl (by kernel_rfl)) rfl ?_
  exact ⟨rfl, H.below⟩
theorem sabs_lt' (F x : Int) (hx : clip x = x) : decide (F < sabs x) = (decide (F < x) || decide (F < -x)) := by
  have h : sabs x = if x < 0 then -x else x := by unfold sabs sneg; rw [hx]
  rw [Bool.eq_iff_iff, h]
  simp only [Bool.or_eq_true, decide_eq_true_eq]
  split <;> omega
set_option maxHeartbeats 8000000 in
set_option maxRecDepth 100000 in
theorem RJumps_calls (p : Par) (s nx : St) (ticks : Int) (A A2 : Option Addr) (c c2 : Nat) (w : World) : Calls Tryz.prog 80 #[.agg #[.int .i64 p.N, .int .i64 p.F, .int .i64 p.D, .int .i64 p.Be, .int .i64 p.Rho, .int .i64 p.De, .int .i64 p.Ji, .int .i64 p.Eps, .int .i64 p.Mu, .int .i64 p.Ho, .int .i64 p.Pu, .int .i64 p.Se], .agg #[.int .i64 s.lo, .int .i64 s.hi, .int .i64 s.time, .bool s.set, .int .i64 s.held, .int .i64 s.hops, .bool s.good, .slice A s.tab.length c, .int .i64 s.st, .int .i64 s.sn, .int .i64 s.life], .int .i64 ticks, .agg #[.int .i64 nx.lo, .int .i64 nx.hi, .int .i64 nx.time, .bool nx.set, .int .i64 nx.held, .int .i64 nx.hops, .bool nx.good, .slice A2 nx.tab.length c2, .int .i64 nx.st, .int .i64 nx.sn, .int .i64 nx.life]] w fun e w' => e = .returned (.bool (jumpP p s ticks nx)) ∧ Below w.heap.size w w' := by
  obtain ⟨lo, hi, time, set, held, hops, good, tab, st, sn, life⟩ := s
  obtain ⟨nlo, nhi, ntime, nset, nheld, nhops, ngood, ntab, nst, nsn, nlife⟩ := nx
  obtain ⟨o, ho⟩ : ∃ o, ofP p set good held hops = o := ⟨_, rfl⟩
  obtain ⟨x, hx⟩ : ∃ x, ssub (midP nlo nhi) (sadd [time, ticks]) = x := ⟨_, rfl⟩
  obtain ⟨f, hf⟩ : ∃ f, farP p nheld = f := ⟨_, rfl⟩
  have hxb := clip_bd (clip (midP nlo nhi) - clip (sadd [time, ticks]))
  have hxb2 : -2305843009213693952 ≤ x ∧ x ≤ 2305843009213693952 := by rw [← hx]; exact hxb
  have hcx : clip x = x := clip_id hxb2.1 hxb2.2
  obtain ⟨b0, h0⟩ : ∃ b, (o == 0) = b := ⟨_, rfl⟩
  obtain ⟨b1, h1⟩ : ∃ b, decide (f < x) = b := ⟨_, rfl⟩
  obtain ⟨b2, h2⟩ : ∃ b, decide (f < -x) = b := ⟨_, rfl⟩
  have HJ : Hid (jumpP p ⟨lo, hi, time, set, held, hops, good, tab, st, sn, life⟩ ticks ⟨nlo, nhi, ntime, nset, nheld, nhops, ngood, ntab, nst, nsn, nlife⟩ = (b0 || (b1 || b2))) := Lib.hid (by
    unfold jumpP
    dsimp only
    rw [ho, hf, hx, h0, sabs_lt' f x hcx, h1, h2])
  have KOf : Hid (∀ W A n c, Calls Tryz.prog 75 #[.agg #[.int .i64 p.N, .int .i64 p.F, .int .i64 p.D, .int .i64 p.Be, .int .i64 p.Rho, .int .i64 p.De, .int .i64 p.Ji, .int .i64 p.Eps, .int .i64 p.Mu, .int .i64 p.Ho, .int .i64 p.Pu, .int .i64 p.Se], .agg #[.int .i64 lo, .int .i64 hi, .int .i64 time, .bool set, .int .i64 held, .int .i64 hops, .bool good, .slice A n c, .int .i64 st, .int .i64 sn, .int .i64 life]] W fun e w' => e = .returned (.int .i64 o) ∧ Below W.heap.size W w') := Lib.hid (fun W A n c => ho ▸ ROf_calls p lo hi time set held hops good A n c st sn life W)
  have KFar : Hid (∀ W, Calls Tryz.prog 97 #[.agg #[.int .i64 p.N, .int .i64 p.F, .int .i64 p.D, .int .i64 p.Be, .int .i64 p.Rho, .int .i64 p.De, .int .i64 p.Ji, .int .i64 p.Eps, .int .i64 p.Mu, .int .i64 p.Ho, .int .i64 p.Pu, .int .i64 p.Se], .int .i64 nheld] W fun e w' => e = .returned (.int .i64 f) ∧ Below W.heap.size W w') := Lib.hid (fun W => hf ▸ RFar_calls p nheld W)
  have KS : Hid (∀ W, Calls Tryz.prog 70 #[.int .i64 (midP nlo nhi), .int .i64 (sadd [time, ticks])] W fun e w' => e = .returned (.int .i64 x) ∧ Below W.heap.size W w') := Lib.hid (fun W => hx ▸ ret_below (RSub_calls _ _ W))
  have hn1 : wrap64 (-x) = -x := by unfold wrap64; omega
  dsimp only
  obtain ⟨hxb3, hxb4⟩ := hxb2
  clear hcx hxb hx hf ho
  have H := Fr.start0 (M := fun _ => False) (A := fun _ => False) (w := w) (p := fun _ => True) (fun _ h => h.elim) (fun _ _ => trivial)
  go_enter Tryz.func80, Tryz.ntmps80
  go_wp2_with (first
    | ((with_reducible refine gate_dst (N := 4) rfl ?_); refine fr_box H rfl rfl rfl ?_; intro g4 w4 H1; replace H := H1; clear H1)
    | ((with_reducible refine gate_dst (N := 5) rfl ?_); refine fr_box H rfl rfl rfl ?_; intro g5 w5 H1; replace H := H1; clear H1)
    | ((with_reducible refine gate_dst (N := 7) rfl ?_); refine fr_box H rfl rfl rfl ?_; intro g7 w7 H1; replace H := H1; clear H1)
    | fail)
  refine ko_region0 H (by kernel_rfl) (by as_aux_lemma => kernel_rfl) (fun HR => ?_)
  repeat (first
    | ((with_reducible refine kg_call (f := 23) rfl ?_); refine ko_call 23 _ rfl (by rfl) Tryz.func23 (by kernel_rfl) rfl (by kernel_rfl) (by simp only [List.map_toArray, List.map_cons, List.map_nil]; rfl) (fun W hC hd => RAdd2 (by first | exact depH.hd hd (by kernel_rfl) | exact depH.hd (depH.tl hd) (by kernel_rfl) | exact depH.hd (depH.tl (depH.tl hd)) (by kernel_rfl))) ?_; (try simp only [Act.put, lsA, lsZ, lsS, Nat.reduceAdd]))
    | ((with_reducible refine kg_call (f := 78) rfl ?_); refine ko_call 78 _ rfl (by rfl) Tryz.func78 (by kernel_rfl) rfl (by kernel_rfl) (by simp only [List.map_toArray, List.map_cons, List.map_nil]; rfl) (fun W hC hd => RMid_calls _ _ _) ?_; (try simp only [Act.put, lsA, lsZ, lsS, Nat.reduceAdd]))
    | ((with_reducible refine kg_call (f := 70) rfl ?_); refine ko_call 70 _ rfl (by rfl) Tryz.func70 (by kernel_rfl) rfl (by kernel_rfl) (by simp only [List.map_toArray, List.map_cons, List.map_nil]; rfl) (fun W hC hd => KS.out W) ?_; (try simp only [Act.put, lsA, lsZ, lsS, Nat.reduceAdd]))
    | ((with_reducible refine kg_load (ty := 25) rfl ?_); refine ko_sub HR (n := 2) rfl (by rfl) (by rfl) (by repeat (first | exact At.head | apply At.tail)) Tryz.underlying25 rfl (by kernel_rfl) (by simp only [List.toList_toArray, List.drop_succ_cons, List.drop_zero, List.take_succ_cons, List.take_zero]; rfl) (by rfl) ?_; (try simp only [Act.put, lsA, lsZ, lsS, Nat.reduceAdd]))
    | ((with_reducible refine kg_load (ty := 3) rfl ?_); refine ko_get HR rfl (by rfl) (by rfl) (by repeat (first | exact At.head | apply At.tail)) Tryz.underlying3 rfl (by simp only [List.getElem?_toArray, List.getElem?_cons_succ, List.getElem?_cons_zero]; rfl) ?_; (try simp only [Act.put, lsA, lsZ, lsS, Nat.reduceAdd]))
    | ((with_reducible refine kg_dst (N := 17) rfl ?_); refine ko_row rfl (by rfl) (fun W K hK => by go_simp; exact hK.out) ?_; intro x17; (try simp only [Act.put, lsA, lsZ, lsS, Nat.reduceAdd]))
    | (refine ko_pure rfl (by rfl) (fun W K hK => by go_simp; exact hK.out) ?_; (try simp only [Act.put, lsA, lsZ, lsS, Nat.reduceAdd]))
    | (refine ko_off (by rfl) ?_; (try simp only [Act.put, lsA, lsZ, lsS, Nat.reduceAdd])))
  refine ko_end ?_
  intro w1 H1
  clear HR H
  have H := H1
  clear H1
  (try simp only [List.map_cons, List.map_nil, cv, List.cons_append, List.nil_append] at H)
  cases b0 <;> cases b1 <;> cases b2
  all_goals
    go_wp2_with (first
      | (go_at_call 75; (with_reducible refine (KOf.out _ _ _ _).mono ?_); rintro e w' ⟨rfl, hb⟩; have H1 := H.call hb; clear hb; replace H := H1; clear H1)
      | (go_at_call 97; (with_reducible refine (KFar.out _).mono ?_); rintro e w' ⟨rfl, hb⟩; have H1 := H.call hb; clear hb; replace H := H1; clear H1)
      | ((with_reducible refine gate_dst (N := 20) rfl ?_); refine fr_sub H (n := 12) rfl rfl rfl (by repeat (first | exact At.head | apply At.tail)) Tryz.underlying23 rfl (by kernel_rfl) (by simp only [List.toList_toArray, List.drop_succ_cons, List.drop_zero, List.take_succ_cons, List.take_zero]; rfl) (by rfl) ?_)
      | ((with_reducible refine gate_dst (N := 22) rfl ?_); refine fr_get H rfl rfl rfl (by repeat (first | exact At.head | apply At.tail)) Tryz.underlying3 rfl (by simp only [List.getElem?_toArray, List.getElem?_cons_succ, List.getElem?_cons_zero]; rfl) ?_)
      | ((with_reducible refine gate_dst (N := 24) rfl ?_); refine fr_sub H (n := 12) rfl rfl rfl (by repeat (first | exact At.head | apply At.tail)) Tryz.underlying23 rfl (by kernel_rfl) (by simp only [List.toList_toArray, List.drop_succ_cons, List.drop_zero, List.take_succ_cons, List.take_zero]; rfl) (by rfl) ?_)
      | ((with_reducible refine gate_dst (N := 25) rfl ?_); refine fr_sub H (n := 11) rfl rfl rfl (by repeat (first | exact At.head | apply At.tail)) Tryz.underlying30 rfl (by kernel_rfl) (by simp only [List.toList_toArray, List.drop_succ_cons, List.drop_zero, List.take_succ_cons, List.take_zero]; rfl) (by rfl) ?_)
      | fail)
    go_ret
    exact ⟨(by rw [HJ.out]; try rfl), H.below⟩
end Go.Proofs.YtbmfgcekglgliaaGreat.G

namespace Go.Proofs
open Go.Shelf
def Tryz.insLays_ren : Go.Shelf.Ren := ⟨fun | 20 => 88 | n => n, fun | 24 => 49 | 22 => 42 | 3 => 3 | 25 => 75 | 4 => 4 | 0 => 0 | n => n, fun | n => n⟩
theorem Tryz.insLays : Go.Proofs.SlLaysF0.n20 Tryz.prog Tryz.insLays_ren := {
  mixed := by kernel_rfl
  f20 := ⟨Tryz.f88.name, by decide, Tryz.func88.trans (congrArg some (by kernel_rfl))⟩
  t0 := Tryz.underlying0
  a0 := Tryz.isAgg0
  z0 := Tryz.sizeOf0
  v0 := Tryz.zeroValue0
  t3 := Tryz.underlying3
  a3 := Tryz.isAgg3
  z3 := Tryz.sizeOf3
  v3 := Tryz.zeroValue3
  t4 := Tryz.underlying4
  a4 := Tryz.isAgg4
  z4 := Tryz.sizeOf4
  v4 := Tryz.zeroValue4
  t22 := Tryz.underlying42
  a22 := Tryz.isAgg42
  z22 := Tryz.sizeOf42
  v22 := Tryz.zeroValue42
  t25 := Tryz.underlying75
  a25 := Tryz.isAgg75
  z25 := Tryz.sizeOf75
  v25 := Tryz.zeroValue75 }
end Go.Proofs

namespace Go.Proofs.YtbmfgcekglgliaaGreat.G
open Go.RowKit Go.Sort Go.Proofs.YtbmfgcekglgliaaGreatW.PrintWords Go.Proofs.YtbmfgcekglgliaaGreatW.PrintLast Go.Proofs.YtbmfgcekglgliaaGreatW.PrintMore
set_option linter.unusedVariables false
set_option linter.unusedSimpArgs false
structure Hb where
  h : Hd
  lo : 0 ≤ h.frm
  hi : h.frm < 16
instance : Inhabited Hb := ⟨⟨⟨0, 0, 0, 0, 0, 0, false, false, 0, 0, 0, 0, 0, none, 0, 0, 0⟩, by decide, by decide⟩⟩
def encB (x : Hb) : List Value := encH x.h
def cfB (x y : Hb) : Int := x.h.frm - y.h.frm
theorem swoB : SWO (ltOf cfB) := by
  constructor
  · intro x; unfold ltOf cfB; simp
  · intro x y z h1 h2
    unfold ltOf cfB at *
    have := of_decide_eq_true h1
    have := of_decide_eq_true h2
    exact decide_eq_true (by omega)
  · intro x y z h1 h2
    unfold ltOf cfB at *
    have := of_decide_eq_false h1
    have := of_decide_eq_false h2
    exact decide_eq_false (by omega)
def unB (l : List Hb) : List Hd := l.map (·.h)
def sortB (l : List Hb) : List Hb := (insertionSort (ltOf cfB) l.toArray 0 l.length).toList
theorem sortB_spec (l : List Hb) : (sortB l).Perm l ∧ (sortB l).Pairwise (fun x y => x.h.frm ≤ y.h.frm) := by
  obtain ⟨⟨h1, _, h3⟩, h4⟩ := insertionSort_holds (lt := ltOf cfB) swoB l.toArray 0 l.length (Nat.zero_le _) (by simp)
  constructor
  · unfold sortB
    have e1 : ∀ a : Array Hb, a.size = l.length → (a.extract 0 l.length).toList = a.toList := fun a ha => by simp [← ha]
    rw [e1 _ (by rw [h1]; simp), e1 _ (by simp)] at h3
    simpa using h3
  · rw [List.pairwise_iff_getElem]
    intro i j hi hj hij
    have hs : (insertionSort (ltOf cfB) l.toArray 0 l.length).size = l.length := by rw [h1]; simp
    have hj' : j < l.length := by unfold sortB at hj; rw [Array.length_toList, hs] at hj; exact hj
    have := h4 i j (Nat.zero_le _) hij hj'
    have := of_decide_eq_false (p := cfB _ _ < 0) this
    have e : ∀ k (hk : k < (sortB l).length), (sortB l)[k] = (insertionSort (ltOf cfB) l.toArray 0 l.length)[k]! := fun k hk => by
      have hk' : k < (insertionSort (ltOf cfB) l.toArray 0 l.length).size := by unfold sortB at hk; rw [Array.length_toList] at hk; exact hk
      rw [getElem!_pos _ k hk']
      exact Array.getElem_toList hk'
    rw [e i hi, e j hj]
    generalize insertionSort (ltOf cfB) l.toArray 0 l.length = arr at this ⊢
    unfold cfB at this
    omega
theorem sortB_length (l : List Hb) : (sortB l).length = l.length := (sortB_spec l).1.length_eq
set_option maxHeartbeats 1000000 in
theorem Told2_calls (x y : Hb) (w : World) : Calls Tryz.prog 29 #[.agg (encB x).toArray, .agg (encB y).toArray] w fun e w' => e = .returned (.int .i64 (cfB x y)) ∧ ∃ q os', w' = grow (w.drewN q) os' := by
  obtain ⟨⟨kind, frm, lo, hi, held, hops, good, ref, slo, shi, pulse, st, sn, A, n, c, age⟩, b1, b2⟩ := x
  obtain ⟨⟨kind2, frm2, lo2, hi2, held2, hops2, good2, ref2, slo2, shi2, pulse2, st2, sn2, A2, n2, c2, age2⟩, b3, b4⟩ := y
  have hw : IntKind.i64.wrap (frm - frm2) = frm - frm2 := by rw [IntKind.wrap_i64]; dsimp only at b1 b2 b3 b4; omega
  unfold cfB
  simp only [encB, encH]
  clear b1 b2 b3 b4
  go_enter Tryz.func29, Tryz.ntmps29
  go_wp2
  go_ret
  exact ⟨by simp only [hw]; try rfl, 0, _, by rw [alloc_eq_grow, alloc_eq_grow, grow_grow]; rfl⟩
theorem flatB (l : List Hb) : (flatK encB 15 l.toArray).toList = flH (unB l) := by
  apply List.ext_getElem?
  intro t
  have hl : (flH (unB l)).length = l.length * 15 := by rw [flH_length]; unfold unB; rw [List.length_map]
  by_cases ht : t < l.length * 15
  · have hd : t / 15 < l.length := by omega
    have e1 : (flH (unB l))[t]? = some (encB l[t / 15])[t % 15]! := by
      have hm : t % 15 < (encB l[t / 15]).length := by show t % 15 < 15; omega
      have := flH_at (unB l) (t / 15) (t % 15) (l[t / 15]).h (encB l[t / 15])[t % 15]! (by unfold unB; rw [List.getElem?_map, List.getElem?_eq_getElem hd]; rfl) (by
        show (encB l[t / 15])[t % 15]? = _
        rw [List.getElem?_eq_getElem hm, getElem!_pos (encB l[t / 15]) (t % 15) hm])
      rw [show t / 15 * 15 + t % 15 = t by omega] at this
      exact this
    rw [e1, Array.getElem?_toList]
    have hs : t < (flatK encB 15 l.toArray).size := by rw [size_flatK]; simpa using ht
    rw [Array.getElem?_eq_getElem hs]
    have := get_flatK encB 15 l.toArray t (by simpa using ht)
    rw [getElem!_pos (flatK encB 15 l.toArray) t hs] at this
    rw [this]
    simp [hd]
  · have hs : (flatK encB 15 l.toArray).toList.length = l.length * 15 := by rw [Array.length_toList, size_flatK]; simp
    rw [List.getElem?_eq_none (by omega), List.getElem?_eq_none (by omega)]
theorem holdsB {W : World} {g : Nat} {cur : Array Value} {e : TypeId} {l : List Hb} (hb : W.heap[g]? = some (.cells cur e (0, 0))) (ht : cur.toList.take (l.length * 15) = flH (unB l)) : HoldsK encB 15 W g 0 l.toArray := by
  intro j hj
  rw [size_flatK] at hj
  have hj' : j < l.length * 15 := by simpa using hj
  refine ⟨?_, by simp [World.frozen?, hb]⟩
  have h1 : (cur.toList.take (l.length * 15))[j]? = (flatK encB 15 l.toArray).toList[j]? := by rw [ht, flatB]
  rw [List.getElem?_take_of_lt hj'] at h1
  rw [Nat.zero_add, blk_cell hb, ← Array.getElem?_toList, h1, Array.getElem?_toList]
  have hs : j < (flatK encB 15 l.toArray).size := by rw [size_flatK]; exact hj
  rw [Array.getElem?_eq_getElem hs, getElem!_pos _ j hs]
  rfl
theorem heapB {w : World} {g n : Nat} {os : Array Obj} {cur : Array Value} {e : TypeId} {fr : Nat × Nat} (d : Array Hb) (hb : w.heap[g]? = some (.cells cur e fr)) :
    (sortWorldK encB 15 w g 0 n d os).heap[g]? = some (.cells (putCells id 0 (flatK encB 15 d) cur) e fr) := by
  have hg : g < w.heap.size := (Array.getElem?_eq_some_iff.1 hb).1
  unfold sortWorldK putRowK
  rw [heap_grow_old _ _ (by simpa using hg)]
  simp [putRow, mapBlock, Sort.ahead, Array.getElem?_modify, hb, onCells]
theorem grownB {w : World} {g n : Nat} {os : Array Obj} (d : Array Hb) : w.grownBy (sortWorldK encB 15 w g 0 n d os) (some g) := by
  unfold sortWorldK putRowK
  refine ⟨rfl, rfl, rfl, by simp, fun k hk hne => ?_⟩
  rw [heap_grow_old _ _ (by simpa using hk)]
  have : g ≠ k := fun e => hne (by rw [e])
  simp [putRow, mapBlock, Sort.ahead, Array.getElem?_modify, this]
theorem takeB {cur : Array Value} {l : List Hb} (h : l.length * 15 ≤ cur.size) : (putCells id 0 (flatK encB 15 l.toArray) cur).toList.take (l.length * 15) = flH (unB l) := by
  rw [← flatB]
  apply List.ext_getElem?
  intro j
  have hs : (flatK encB 15 l.toArray).size = l.length * 15 := by rw [size_flatK]; simp
  by_cases hj : j < l.length * 15
  · rw [List.getElem?_take_of_lt hj, Array.getElem?_toList, Array.getElem?_toList]
    simp [putCells, hs, hj, show j < cur.size by omega]
  · rw [List.getElem?_take_eq_none (by omega), List.getElem?_eq_none (by rw [Array.length_toList, hs]; omega)]
set_option maxHeartbeats 2000000 in
theorem Ins_calls (g cap : Nat) (l : List Hb) (w : World) (hH : HoldsK encB 15 w g 0 l.toArray) (hg : g < w.heap.size) (hsz : l.length < 20) :
    Calls Tryz.prog 88 #[.slice (some ⟨g, 0, none⟩) l.length cap, .int .i64 0, .int .i64 l.length, .func (.func 29) #[] #[]] w fun e w' => e = .returned (.tuple #[]) ∧ ∃ n os, w' = sortWorldK encB 15 w g 0 n (sortB l).toArray os := by
  have eg : ∀ args w, (callFunc 29 args).run Tryz.prog w = .ok (.enter 29 args) w := enters_of Tryz.func29 (by kernel_rfl) rfl
  have := AnyQ.insertionSortCmpFunc Tryz.insLays 15 Tryz.isAgg49 Tryz.sizeOf49 encB (fun x => encH_len x.h) (fun x v hv => encH_one x.h v hv) cfB 29 #[] g 0 cap 0 l.length l.toArray w eg (fun m os dk hs x y => Told2_calls x y _) hH hg (Nat.zero_le _) (by simp) (by simp; omega)
  have e1 : (sortB l).toArray = insertionSort (ltOf cfB) l.toArray 0 l.length := by unfold sortB; simp
  rw [e1]
  have e2 : Tryz.insLays_ren.f 20 = 88 := rfl
  rw [e2] at this
  simpa using this
set_option maxRecDepth 100000 in
set_option maxHeartbeats 4000000 in
theorem InsNone_calls (A : Option Addr) (cap : Nat) (w : World) : Calls Tryz.prog 88 #[.slice A 0 cap, .int .i64 0, .int .i64 0, .func (.func 29) #[] #[]] w fun e w' => e = .returned (.tuple #[]) ∧ w' = w := by
  go_enter Tryz.func88, Tryz.ntmps88
  go_wp2
  go_loop [8] (fun v => v = .int .i64 1) (fun v => 0)
  case atStart => rfl
  case round =>
    subst hrel
    go_wp2
    refine bodyPost_end (results_none rfl _ _ _) rfl ?_
    exact ⟨rfl, rfl⟩
set_option maxRecDepth 100000 in
set_option maxHeartbeats 4000000 in
theorem Stab_calls (A : Option Addr) (n cap : Nat) (R : World → Prop) (w : World) (hn : n < 20) (hI : Calls Tryz.prog 88 #[.slice A n cap, .int .i64 0, .int .i64 n, .func (.func 29) #[] #[]] w fun e w' => e = .returned (.tuple #[]) ∧ R w') :
    Calls Tryz.prog 28 #[.slice A n cap, .func (.func 29) #[] #[]] w fun e w' => e = .returned (.tuple #[]) ∧ R w' := by
  have hS : Calls Tryz.prog 57 #[.slice A n cap, .int .i64 n, .func (.func 29) #[] #[]] w fun e w' => e = .returned (.tuple #[]) ∧ R w' := by
    have HI := Lib.hid hI
    have h1 : ¬ (20 : Int) ≤ (n : Int) := by omega
    have h2 : ¬ (20 : Int) < (n : Int) := by omega
    clear hI hn
    go_enter Tryz.func57, Tryz.ntmps57
    go_wp2
    go_loop [7, 8] (fun v7 v8 => v7 = .int .i64 0 ∧ v8 = .int .i64 20) (fun _ _ => 0)
    case atStart => exact ⟨rfl, rfl⟩
    case round =>
      obtain ⟨rfl, rfl⟩ := hrel
      go_wp2_with (first
        | (go_at_call 88; (with_reducible refine HI.out.mono ?_); rintro e w' ⟨rfl, hR⟩; have HR := Lib.hid hR; clear hR)
        | fail)
      go_loop [6] (fun v => v = .int .i64 20) (fun v => 0)
      case atStart => rfl
      case round =>
        subst hrel
        go_wp2
        refine bodyPost_end (results_none rfl _ _ _) rfl ?_
        exact ⟨rfl, HR.out⟩
  have HS := Lib.hid hS
  clear hS hI hn
  go_enter Tryz.func28, Tryz.ntmps28
  go_wp2_with (first
    | (go_at_call 57; (with_reducible refine HS.out.mono ?_); rintro e w' ⟨rfl, hR⟩; have HR := Lib.hid hR; clear hR)
    | fail)
  refine bodyPost_end (results_none rfl _ _ _) rfl ?_
  exact ⟨rfl, HR.out⟩
theorem SortH_calls (b : Nat) (v : Value) (l : List Hb) (w : World) (hO : w.ownsRow b 49 15 v l.length (flH (unB l))) (hl : l.length < 20) :
    Calls Tryz.prog 28 #[v, .func (.func 29) #[] #[]] w fun e w' => e = .returned (.tuple #[]) ∧ w'.ownsRow b 49 15 v l.length (flH (unB (sortB l))) ∧ w.grownBy w' v.ownBlock := by
  rcases hO with ⟨h1, ⟨rfl, h0⟩ | ⟨g, cap, cur, rfl, h3, h4, h5, h6, h7, h8⟩⟩
  · have hn : l = [] := List.eq_nil_of_length_eq_zero h0
    subst hn
    refine (Stab_calls none 0 0 (fun w' => w' = w) w (by omega) (InsNone_calls none 0 w)).mono ?_
    rintro e w' ⟨rfl, rfl⟩
    exact ⟨rfl, ⟨by rw [flH_length]; unfold unB; rw [List.length_map, sortB_length], .inl ⟨rfl, rfl⟩⟩, ⟨rfl, rfl, rfl, Nat.le_refl _, fun _ _ _ => rfl⟩⟩
  · have hg : g < w.heap.size := (Array.getElem?_eq_some_iff.1 h4).1
    refine (Stab_calls (some ⟨g, 0, none⟩) l.length cap (fun w' => ∃ n os, w' = sortWorldK encB 15 w g 0 n (sortB l).toArray os) w hl (Ins_calls g cap l w (holdsB h4 h8) hg hl)).mono ?_
    rintro e w' ⟨rfl, n, os, rfl⟩
    refine ⟨rfl, ⟨?_, .inr ⟨g, cap, _, rfl, h3, heapB _ h4, h5, h6, ?_, ?_⟩⟩, grownB _⟩
    · rw [flH_length]; unfold unB; rw [List.length_map, sortB_length]
    · simp [putCells, h7]
    · have := takeB (cur := cur) (l := sortB l) (by rw [sortB_length, h7]; exact Nat.mul_le_mul_right 15 h5)
      rw [sortB_length] at this
      exact this
end Go.Proofs.YtbmfgcekglgliaaGreat.G

namespace Go.Proofs.YtbmfgcekglgliaaGreat.G
open Go.RowKit Go.Proofs.YtbmfgcekglgliaaGreatW.PrintWords Go.Proofs.YtbmfgcekglgliaaGreatW.PrintLast Go.Proofs.YtbmfgcekglgliaaGreatW.PrintMore Go.Proofs.YtbmfgcekglgliaaGreatPl Go.Proofs.YtbmfgcekglgliaaGreatEm Go.Proofs.YtbmfgcekglgliaaGreatKr Go.Proofs.YtbmfgcekglgliaaGreatRz Go.Proofs.YtbmfgcekglgliaaGreat.X
set_option linter.unusedVariables false
set_option linter.unusedSimpArgs false
theorem min16 (N x : Int) (h : x < (if 16 < N then 16 else N)) : x < 16 := by split at h <;> omega
def fitH (N me : Int) (out : List Hb) (h : Hd) : Bool := (h.kind == 1) && decide (0 ≤ h.frm) && decide (h.frm < (if 16 < N then 16 else N)) && (h.frm != me) && !(unB out).any (fun x => x.frm == h.frm)
theorem fitH_bd {N me : Int} {out : List Hb} {h : Hd} (g : fitH N me out h = true) : 0 ≤ h.frm ∧ h.frm < 16 := by
  unfold fitH at g
  simp only [Bool.and_eq_true, decide_eq_true_eq] at g
  exact ⟨g.1.1.1.2, min16 _ _ g.1.1.2⟩
def addT (N me : Int) (out : List Hb) (h : Hd) : List Hb := if g : fitH N me out h = true then out ++ [⟨h, (fitH_bd g).1, (fitH_bd g).2⟩] else out
def firsts (N me : Int) (l : List Hd) : List Hb := l.foldl (addT N me) []
theorem firsts_snoc (N me : Int) (l : List Hd) (h : Hd) : firsts N me (l ++ [h]) = addT N me (firsts N me l) h := by unfold firsts; rw [List.foldl_append]; rfl
theorem few_of : ∀ (m : Nat) (l : List Int), l.Nodup → (∀ x ∈ l, 0 ≤ x ∧ x < m) → l.length ≤ m
  | 0, l, _, hb => by
    cases l with
    | nil => simp
    | cons x l => have := hb x List.mem_cons_self; omega
  | m + 1, l, hd, hb => by
    have h1 := few_of m (l.filter (fun x => x != (m : Int))) (hd.filter _) (fun x hx => by
      obtain ⟨h2, h3⟩ := List.mem_filter.1 hx
      have := hb x h2
      have h4 : x ≠ (m : Int) := by simpa using h3
      omega)
    have h2 : l.countP (fun x => x == (m : Int)) ≤ 1 := by
      have := List.nodup_iff_count.1 hd (m : Int)
      exact this
    have h3 := List.length_eq_countP_add_countP (l := l) (fun x => x == (m : Int))
    have h4 : l.countP (fun x => decide ¬((x == (m : Int)) = true)) = (l.filter (fun x => x != (m : Int))).length := by
      rw [← List.countP_eq_length_filter]
      congr 1
      funext x
      rw [Bool.eq_iff_iff]; simp [bne]
    omega
theorem firsts_nodup (N me : Int) : ∀ (l : List Hd), ((unB (firsts N me l)).map (·.frm)).Nodup := by
  intro l
  suffices h : ∀ (l : List Hd) (out : List Hb), ((unB out).map (·.frm)).Nodup → ((unB (l.foldl (addT N me) out)).map (·.frm)).Nodup from h l [] (by simp [unB])
  intro l
  induction l with
  | nil => intro out h; exact h
  | cons x l ih =>
    intro out h
    refine ih _ ?_
    unfold addT
    split
    · rename_i g
      unfold unB
      rw [List.map_append, List.map_append, List.nodup_append]
      refine ⟨h, by simp, fun a ha b hb => ?_⟩
      simp at hb
      subst hb
      intro e
      subst e
      unfold fitH at g
      simp only [Bool.and_eq_true, Bool.not_eq_true'] at g
      have g2 := g.2
      rw [List.any_eq_false] at g2
      obtain ⟨y, hy, e⟩ := List.mem_map.1 ha
      exact g2 y hy (by simp [e])
    · exact h
theorem firsts_len (N me : Int) (l : List Hd) : (firsts N me l).length ≤ 16 := by
  have := few_of 16 ((unB (firsts N me l)).map (·.frm)) (firsts_nodup N me l) (fun x hx => by
    obtain ⟨y, hy, rfl⟩ := List.mem_map.1 hx
    obtain ⟨z, hz, rfl⟩ := List.mem_map.1 hy
    exact ⟨z.lo, by have := z.hi; omega⟩)
  unfold unB at this
  simpa using this
theorem Fr.grow {M A : Nat → Prop} {w W W1 : World} {bl : List (Nat × Obj)} {p : World → Prop} {r : Option Nat} (H : Fr M A w W bl p) (hg : W.grownBy W1 r) (hr : ∀ k, r = some k → w.heap.size ≤ k ∧ ¬ Of bl k) (hp : Tr (fun k => (A k ∨ Of bl k) ∨ r = some k) W p) : Fr M A w W1 bl p :=
  ⟨H.av, ⟨hg.os.trans H.chg.os, hg.tape.trans H.chg.tape, hg.output.trans H.chg.output, Nat.le_trans H.chg.size hg.size, fun k hk hn => (hg.block k (Nat.lt_of_lt_of_le hk H.chg.size) (fun e => by have := (hr k e.symm).1; omega)).trans (H.chg.block k hk hn)⟩,
    fun x hx => ⟨(hg.block x.1 (Go.Proofs.YtbmfgcekglgliaaGreatEm.obj_lt (H.blk x hx).1) (fun e => (hr x.1 e.symm).2 ⟨x, hx, rfl⟩)).trans (H.blk x hx).1, (H.blk x hx).2⟩, H.nd,
    fun W' hW => hp W' (fun k hk hl => (hW k (fun q => hk (.inl q)) (Nat.lt_of_lt_of_le hl hg.size)).trans (hg.block k hl (fun e => hk (.inr e.symm))))⟩
theorem Tr.later {M A D : Nat → Prop} {w W : World} {p : World → Prop} (h0 : Tr A w p) (hc : Chg M w W) (hM : ∀ k, M k → A k) (hD : ∀ k, D k → k < w.heap.size → A k) : Tr D W p := fun W' hW =>
  h0 W' (fun k hk hl => (hW k (fun q => hk (hD k q hl)) (Nat.lt_of_lt_of_le hl hc.size)).trans (hc.block k hl (fun q => hk (hM k q))))
theorem own_ne {W : World} {b : Nat} {e t : TypeId} {sz n c g : Nat} {A : Option Addr} {xs : List Value} {cs : Array Value} (h : W.ownsRow b e sz (.slice A n c) n xs) (hg : W.heap[g]? = some (.cells cs t (0, 0))) (ht : t ≠ e) : ∀ ad, A = some ad → g ≠ ad.block := by
  intro ad ha he
  rcases h.2 with ⟨h2, _⟩ | ⟨g2, cap, cur, h2, h3, h4, h5⟩
  · injection h2 with e1
    rw [ha] at e1
    cases e1
  · injection h2 with e1
    rw [ha] at e1
    cases e1
    have he : g = g2 := he
    subst he
    rw [hg] at h4
    injection h4 with h4
    injection h4 with _ h4
    exact ht h4
theorem Fr.appended {M A : Nat → Prop} {w W W1 : World} {bl : List (Nat × Obj)} {p q : World → Prop} {e : TypeId} {sz n c : Nat} {Ao : Option Addr} {xs : List Value} (H : Fr M A w W bl q) (hM : ∀ k, M k → A k) (hp0 : Tr A w p) (hO : W.ownsRow w.heap.size e sz (.slice Ao n c) n xs) (hne : ∀ x, x ∈ bl → ∃ cs t, x.2 = .cells cs t (0, 0) ∧ t ≠ e) (hg : W.grownBy W1 (Value.slice Ao n c).ownBlock) : Fr M A w W1 bl p := by
  have hb : ∀ k, (Value.slice Ao n c).ownBlock = some k → ∃ ad, Ao = some ad ∧ ad.block = k := fun k hk => by
    cases Ao with
    | none => cases hk
    | some ad => exact ⟨ad, rfl, by injection hk⟩
  have hr : ∀ k, (Value.slice Ao n c).ownBlock = some k → w.heap.size ≤ k ∧ ¬ Of bl k := fun k hk => by
    obtain ⟨ad, e1, rfl⟩ := hb k hk
    refine ⟨(own_lo hO ad e1).1, fun ⟨x, hx, e2⟩ => ?_⟩
    obtain ⟨cs, t, e3, e4⟩ := hne x hx
    have := (H.blk x hx).1
    rw [e3] at this
    exact own_ne hO this e4 ad e1 e2
  have hold : ∀ k, Of bl k → k < w.heap.size → A k := fun k ⟨x, hx, e1⟩ hk => by
    rcases (H.blk x hx).2 with q | q
    · omega
    · exact hM k (e1 ▸ q)
  have H1 : Fr M A w W bl p := ⟨H.av, H.chg, H.blk, H.nd, Tr.later hp0 H.chg hM (fun k hk hl => hk.elim id (fun h => hold k h hl))⟩
  refine Fr.grow H1 hg hr (Tr.later hp0 H.chg hM (fun k hk hl => ?_))
  rcases hk with (hk | hk) | hk
  · exact hk
  · exact hold k hk hl
  · have := (hr k hk).1
    omega
theorem infoH : (Tryz.prog.info? 49).map (fun i => (i.zero, i.size, i.bytes)) = some (some (.agg #[.int .i64 0, .int .i64 0, .int .i64 0, .int .i64 0, .int .i64 0, .int .i64 0, .bool false, .bool false, .int .i64 0, .int .i64 0, .int .i64 0, .int .i64 0, .int .i64 0, .slice none 0 0, .int .i64 0]), 15, 128) := by kernel_rfl
theorem new_cells {W : World} {x : Nat} {t : TypeId} {l : List Value} (h : W.heap[x]? = some (.cells l.toArray t (0, 0))) : ∀ j u, l[j]? = some u → W.cell? ((⟨x, 0, none⟩ : Addr).add j) = some u := by
  intro j u hu
  rw [show ((⟨x, 0, none⟩ : Addr).add j) = ⟨x, j, none⟩ by
    unfold Addr.add
    split
    · rename_i h0; rw [h0]
    · simp, blk_cell h]
  simpa using hu
theorem fit_cases2 (N me : Int) (out : List Hb) (h : Hd) (f : Bool) (hf : fitH N me out h = f) :
    (f = false ∧ (h.kind == 1) = false) ∨ (f = false ∧ (h.kind == 1) = true ∧ decide (0 ≤ h.frm) = false) ∨ (f = false ∧ (h.kind == 1) = true ∧ decide (0 ≤ h.frm) = true ∧ decide (h.frm < (if 16 < N then 16 else N)) = false) ∨
    (f = false ∧ (h.kind == 1) = true ∧ decide (0 ≤ h.frm) = true ∧ decide (h.frm < (if 16 < N then 16 else N)) = true ∧ (h.frm != me) = false) ∨ (f = false ∧ (h.kind == 1) = true ∧ decide (0 ≤ h.frm) = true ∧ decide (h.frm < (if 16 < N then 16 else N)) = true ∧ (h.frm != me) = true ∧ (unB out).any (fun x => x.frm == h.frm) = true) ∨
    (f = true ∧ (h.kind == 1) = true ∧ decide (0 ≤ h.frm) = true ∧ decide (h.frm < (if 16 < N then 16 else N)) = true ∧ (h.frm != me) = true ∧ (unB out).any (fun x => x.frm == h.frm) = false) := by
  unfold fitH at hf
  subst hf
  generalize (h.kind == 1) = a
  generalize decide (0 ≤ h.frm) = b
  generalize decide (h.frm < (if 16 < N then 16 else N)) = c
  generalize (h.frm != me) = d
  generalize (unB out).any (fun x => x.frm == h.frm) = e
  cases a <;> cases b <;> cases c <;> cases d <;> cases e <;> simp
def told (N me : Int) (l : List Hd) : List Hb := sortB (firsts N me l)
set_option maxRecDepth 100000 in
set_option maxHeartbeats 16000000 in
theorem Told_calls (p : Par) (me : Int) (A : Option Addr) (c : Nat) (l : List Hd) (w : World) (hr : Tr (fun _ => False) w (fun W => RowH W A l)) (hl : l.length ≤ 4096) :
    Calls Tryz.prog 10 #[.agg #[.int .i64 p.N, .int .i64 p.F, .int .i64 p.D, .int .i64 p.Be, .int .i64 p.Rho, .int .i64 p.De, .int .i64 p.Ji, .int .i64 p.Eps, .int .i64 p.Mu, .int .i64 p.Ho, .int .i64 p.Pu, .int .i64 p.Se], .int .i64 me, .slice A l.length c] w fun e w' => ∃ v, e = .returned v ∧ w'.ownsRow w.heap.size 49 15 v (told p.N me l).length (flH (unB (told p.N me l))) ∧ Below w.heap.size w w' := by
  have H := Fr.start0 (M := fun _ => False) (A := fun _ => False) (w := w) (p := fun W => RowH W A l) (fun _ h => h.elim) hr
  have HR0 := Lib.hid hr
  obtain ⟨n, hn⟩ : ∃ n, l.length = n := ⟨_, rfl⟩
  have HN := Lib.hid hn
  rw [hn] at hl ⊢
  obtain ⟨i0, hi0, hz0, hz1, hz2⟩ := info_parts infoH
  obtain ⟨m, hm⟩ : ∃ m, (if 16 < p.N then (16 : Int) else p.N) = m := ⟨_, rfl⟩
  have hmin : ∀ ats ty W, (Builtin.min_ ats ty #[.int .i64 p.N, .int .i64 16]).run Tryz.prog W = .ok (.int .i64 m) W := fun ats ty W => by rw [← hm]; rfl
  have HMI := Lib.hid hm
  clear hm
  clear hr hn
  go_enter Tryz.func10, Tryz.ntmps10
  go_wp2_with (first
    | ((with_reducible refine gate_dst (N := 3) rfl ?_); refine fr_box H rfl rfl rfl ?_; intro g3 w3 H1; replace H := H1; clear H1)
    | ((with_reducible refine gate_dst (N := 17) rfl ?_); refine fr_sub H (n := 15) rfl rfl rfl (by repeat (first | exact At.head | apply At.tail)) Tryz.underlying49 rfl (by kernel_rfl) (by simp only [List.toList_toArray, List.drop_succ_cons, List.drop_zero, List.take_succ_cons, List.take_zero]; rfl) (by rfl) ?_)
    | ((with_reducible refine gate_dst (N := 9) rfl ?_); refine fr_new H (N := 9) rfl rfl (cs := #[.int .i64 0, .int .i64 0, .int .i64 0, .int .i64 0, .int .i64 0, .int .i64 0, .bool false, .bool false, .int .i64 0, .int .i64 0, .int .i64 0, .int .i64 0, .int .i64 0, .slice none 0 0, .int .i64 0]) (t := 49) ?hr ?_; (case hr => first | (go_simp; done) | (go_simp; rfl)); intro g9 w9 H1; replace H := H1; clear H1)
    | ((with_reducible refine gate_store (t := 49) (p := 9) rfl ?_); refine fr_put H rfl rfl rfl rfl rfl (by repeat (first | exact At.head | apply At.tail)) (by rfl) (by kernel_rfl) (by simp [Value.oneCell']) ?_; intro w9_ H1; replace H := H1; clear H1)
    | ((with_reducible refine gate_dst (N := 19) rfl ?_); refine fr_sub H (n := 14) rfl rfl rfl (by repeat (first | exact At.head | apply At.tail)) Tryz.underlying47 rfl (by kernel_rfl) (by simp only [List.toList_toArray, List.drop_succ_cons, List.drop_zero, List.take_succ_cons, List.take_zero]; rfl) (by rfl) ?_)
    | ((with_reducible refine gate_dst (N := 10) rfl ?_); refine fr_new H (N := 10) rfl rfl (cs := #[.int .i64 0, .int .i64 0, .int .i64 0, .int .i64 0, .int .i64 0, .int .i64 0, .bool false, .bool false, .int .i64 0, .int .i64 0, .int .i64 0, .int .i64 0, .int .i64 0, .slice none 0 0]) (t := 47) ?hr ?_; (case hr => first | (go_simp; done) | (go_simp; rfl)); intro g10 w10 H1; replace H := H1; clear H1)
    | ((with_reducible refine gate_store (t := 47) (p := 10) rfl ?_); refine fr_put H rfl rfl rfl rfl rfl (by repeat (first | exact At.head | apply At.tail)) (by rfl) (by kernel_rfl) (by simp [Value.oneCell']) ?_; intro w10_ H1; replace H := H1; clear H1)
    | ((with_reducible refine gate_dst (N := 24) rfl ?_); refine fr_get H rfl rfl rfl (by repeat (first | exact At.head | apply At.tail)) Tryz.underlying3 rfl (by simp only [List.getElem?_toArray, List.getElem?_cons_succ, List.getElem?_cons_zero]; rfl) ?_)
    | ((with_reducible refine gate_dst (N := 28) rfl ?_); (try (refine gate_guard (by rfl) ?_; dsimp only)); refine fr_get H rfl rfl rfl (by repeat (first | exact At.head | apply At.tail)) Tryz.underlying3 rfl (by simp only [List.getElem?_toArray, List.getElem?_cons_succ, List.getElem?_cons_zero]; rfl) ?_)
    | ((with_reducible refine gate_dst (N := 33) rfl ?_); (try (refine gate_guard (by rfl) ?_; dsimp only)); refine fr_get H rfl rfl rfl (by repeat (first | exact At.head | apply At.tail)) Tryz.underlying3 rfl (by simp only [List.getElem?_toArray, List.getElem?_cons_succ, List.getElem?_cons_zero]; rfl) ?_)
    | ((with_reducible refine gate_dst (N := 35) rfl ?_); (try (refine gate_guard (by rfl) ?_; dsimp only)); refine fr_get H rfl rfl rfl (by repeat (first | exact At.head | apply At.tail)) Tryz.underlying3 rfl (by simp only [List.getElem?_toArray, List.getElem?_cons_succ, List.getElem?_cons_zero]; rfl) ?_)
    | ((with_reducible refine gate_dst (N := 41) rfl ?_); (try (refine gate_guard (by rfl) ?_; dsimp only)); refine fr_get H rfl rfl rfl (by repeat (first | exact At.head | apply At.tail)) Tryz.underlying3 rfl (by simp only [List.getElem?_toArray, List.getElem?_cons_succ, List.getElem?_cons_zero]; rfl) ?_)
    | ((with_reducible refine gate_dst (N := 50) rfl ?_); refine fr_sub H (n := 15) rfl rfl rfl (by repeat (first | exact At.head | apply At.tail)) Tryz.underlying49 rfl (by kernel_rfl) (by simp only [List.toList_toArray, List.drop_succ_cons, List.drop_zero, List.take_succ_cons, List.take_zero]; rfl) (by rfl) ?_)
    | ((with_reducible refine gate_dst (N := 51) rfl ?_); refine fr_rowv H (N := 51) rfl rfl (fun K hK => by go_simp; exact hK.out) ?_; intro x51 w51 H1; replace H := H1; clear H1)
    | fail)
  go_loopw [7, 14] (fun v7 v14 wr => ∃ (k : Nat) (out : List Hb) (Ao : Option Addr) (on co : Nat), k ≤ n ∧ v14 = .int .i64 k ∧ v7 = .slice Ao on co ∧ on ≤ co ∧ on ≤ 16 ∧ Hid (out.length = on) ∧ Hid (firsts p.N me (l.take k) = out) ∧ Hid (wr.ownsRow w.heap.size 49 15 (.slice Ao on co) on (flH (unB out))) ∧ Fr (fun _ => False) (fun _ => False) w wr [(g3, .cells #[.int .i64 p.N, .int .i64 p.F, .int .i64 p.D, .int .i64 p.Be, .int .i64 p.Rho, .int .i64 p.De, .int .i64 p.Ji, .int .i64 p.Eps, .int .i64 p.Mu, .int .i64 p.Ho, .int .i64 p.Pu, .int .i64 p.Se] 23 (0, 0))] (fun W => RowH W A l)) (fun _ v14 _ => n - (intOf v14).toNat)
  case atStart => exact ⟨0, [], none, 0, 0, by omega, rfl, rfl, by omega, by omega, Lib.hid rfl, Lib.hid rfl, Lib.hid (World.ownsRow_nil _ _ _ _), H⟩
  case round =>
    clear H
    obtain ⟨k, out, Ao, on, co, hk, rfl, rfl, hco, hk16, HON, HF, HO, H⟩ := hrel
    by_cases hlt : k < n
    · have hkl : k < l.length := by rw [HN.out]; exact hlt
      have hk1 : (k : Int) < (n : Int) := by omega
      have hs1 : -9223372036854775808 ≤ (k : Int) + 1 := by omega
      have hs2 : (k : Int) + 1 ≤ 9223372036854775807 := by omega
      obtain ⟨ad, e, hx⟩ := H.now k hkl
      cases e
      obtain ⟨x, hxe⟩ : ∃ x, l[k] = x := ⟨_, rfl⟩
      rw [hxe] at hx
      have HT : Hid (firsts p.N me (l.take (k + 1)) = addT p.N me out x) := Lib.hid (by rw [List.take_succ_eq_append_getElem hkl, hxe, firsts_snoc, HF.out])
      obtain ⟨f, hf⟩ : ∃ f, fitH p.N me out x = f := ⟨_, rfl⟩
      have HFI := Lib.hid hf
      have hcs := fit_cases2 p.N me out x f hf
      obtain ⟨b, hb⟩ : ∃ b, (unB out).any (fun y => y.frm == x.frm) = b := ⟨_, rfl⟩
      have HCN : Hid (∀ W gm, W.cell? ⟨gm, 1, none⟩ = some (.int .i64 x.frm) → RowH W Ao (unB out) → Calls Tryz.prog 26 #[.slice Ao on co, .func (.func 27) #[] #[.pointer (some ⟨gm, 0, none⟩)]] W fun e w' => e = .returned (.bool b) ∧ Below W.heap.size W w') := Lib.hid (fun W gm h h2 => by
        have := ContainsH_calls Ao co (unB out) gm x.frm W h2 (by unfold unB; rw [List.length_map, HON.out]; omega) h
        rw [hb] at this
        unfold unB at this
        rw [List.length_map, HON.out] at this
        exact this)
      rw [hb, HMI.out] at hcs
      obtain ⟨kind, frm, lo, hi, held, hops, good, ref, slo, shi, pulse, st, sn, Ax, nx, cx, age⟩ := x
      have HC : Hid (∀ j u, [Value.int .i64 kind, .int .i64 frm, .int .i64 lo, .int .i64 hi, .int .i64 held, .int .i64 hops, .bool good, .bool ref, .int .i64 slo, .int .i64 shi, .int .i64 pulse, .int .i64 st, .int .i64 sn, .slice Ax nx cx, .int .i64 age][j]? = some u → wr.cell? ((ad.add (k * 15)).add j) = some u) := Lib.hid hx
      have H1 := H.and (Tr_own HO.out (Nat.le_refl _) (fun k1 a1 h1 h2 => by
        rcases h1 with h1 | ⟨y, hy, e⟩
        · exact h1.elim
        · rcases List.mem_singleton.1 hy with rfl
          rw [← e]
          exact own_ne HO.out (H.of At.head) (by decide) a1 h2))
      clear H
      have H := H1
      clear H1 HO
      dsimp only at hcs HCN
      clear hx hxe hf hb
      rcases hcs with ⟨rfl, d1⟩ | ⟨rfl, d1, d2⟩ | ⟨rfl, d1, d2, d3⟩ | ⟨rfl, d1, d2, d3, d4⟩ | ⟨rfl, d1, d2, d3, d4, rfl⟩ | ⟨rfl, d1, d2, d3, d4, rfl⟩
      all_goals
        go_wp2_with (first
          | ((with_reducible refine gate_dst (N := 17) rfl ?_); refine load_cells rfl rfl (ad := ad.add (k * 15)) (cs := [.int .i64 kind, .int .i64 frm, .int .i64 lo, .int .i64 hi, .int .i64 held, .int .i64 hops, .bool good, .bool ref, .int .i64 slo, .int .i64 shi, .int .i64 pulse, .int .i64 st, .int .i64 sn, .slice Ax nx cx, .int .i64 age]) ?hx Tryz.underlying49 rfl (by kernel_rfl) HC.out ?_; (case hx => first | rfl | (go_simp; done) | (go_simp; rfl)))
          | ((with_reducible refine gate_dst (N := 3) rfl ?_); refine fr_box H rfl rfl rfl ?_; intro g3 w3 H1; replace H := H1; clear H1)
          | ((with_reducible refine gate_dst (N := 17) rfl ?_); refine fr_sub H (n := 15) rfl rfl rfl (by repeat (first | exact At.head | apply At.tail)) Tryz.underlying49 rfl (by kernel_rfl) (by simp only [List.toList_toArray, List.drop_succ_cons, List.drop_zero, List.take_succ_cons, List.take_zero]; rfl) (by rfl) ?_)
          | ((with_reducible refine gate_dst (N := 9) rfl ?_); refine fr_new H (N := 9) rfl rfl (cs := #[.int .i64 0, .int .i64 0, .int .i64 0, .int .i64 0, .int .i64 0, .int .i64 0, .bool false, .bool false, .int .i64 0, .int .i64 0, .int .i64 0, .int .i64 0, .int .i64 0, .slice none 0 0, .int .i64 0]) (t := 49) ?hr ?_; (case hr => first | (go_simp; done) | (go_simp; rfl)); intro g9 w9 H1; replace H := H1; clear H1)
          | ((with_reducible refine gate_store (t := 49) (p := 9) rfl ?_); refine fr_put H rfl rfl rfl rfl rfl (by repeat (first | exact At.head | apply At.tail)) (by rfl) (by kernel_rfl) (by simp [Value.oneCell']) ?_; intro w9_ H1; replace H := H1; clear H1)
          | ((with_reducible refine gate_dst (N := 19) rfl ?_); refine fr_sub H (n := 14) rfl rfl rfl (by repeat (first | exact At.head | apply At.tail)) Tryz.underlying47 rfl (by kernel_rfl) (by simp only [List.toList_toArray, List.drop_succ_cons, List.drop_zero, List.take_succ_cons, List.take_zero]; rfl) (by rfl) ?_)
          | ((with_reducible refine gate_dst (N := 10) rfl ?_); refine fr_new H (N := 10) rfl rfl (cs := #[.int .i64 0, .int .i64 0, .int .i64 0, .int .i64 0, .int .i64 0, .int .i64 0, .bool false, .bool false, .int .i64 0, .int .i64 0, .int .i64 0, .int .i64 0, .int .i64 0, .slice none 0 0]) (t := 47) ?hr ?_; (case hr => first | (go_simp; done) | (go_simp; rfl)); intro g10 w10 H1; replace H := H1; clear H1)
          | ((with_reducible refine gate_store (t := 47) (p := 10) rfl ?_); refine fr_put H rfl rfl rfl rfl rfl (by repeat (first | exact At.head | apply At.tail)) (by rfl) (by kernel_rfl) (by simp [Value.oneCell']) ?_; intro w10_ H1; replace H := H1; clear H1)
          | ((with_reducible refine gate_dst (N := 24) rfl ?_); refine fr_get H rfl rfl rfl (by repeat (first | exact At.head | apply At.tail)) Tryz.underlying3 rfl (by simp only [List.getElem?_toArray, List.getElem?_cons_succ, List.getElem?_cons_zero]; rfl) ?_)
          | ((with_reducible refine gate_dst (N := 28) rfl ?_); (try (refine gate_guard (by rfl) ?_; dsimp only)); refine fr_get H rfl rfl rfl (by repeat (first | exact At.head | apply At.tail)) Tryz.underlying3 rfl (by simp only [List.getElem?_toArray, List.getElem?_cons_succ, List.getElem?_cons_zero]; rfl) ?_)
          | ((with_reducible refine gate_dst (N := 33) rfl ?_); (try (refine gate_guard (by rfl) ?_; dsimp only)); refine fr_get H rfl rfl rfl (by repeat (first | exact At.head | apply At.tail)) Tryz.underlying3 rfl (by simp only [List.getElem?_toArray, List.getElem?_cons_succ, List.getElem?_cons_zero]; rfl) ?_)
          | ((with_reducible refine gate_dst (N := 35) rfl ?_); (try (refine gate_guard (by rfl) ?_; dsimp only)); refine fr_get H rfl rfl rfl (by repeat (first | exact At.head | apply At.tail)) Tryz.underlying3 rfl (by simp only [List.getElem?_toArray, List.getElem?_cons_succ, List.getElem?_cons_zero]; rfl) ?_)
          | ((with_reducible refine gate_dst (N := 41) rfl ?_); (try (refine gate_guard (by rfl) ?_; dsimp only)); refine fr_get H rfl rfl rfl (by repeat (first | exact At.head | apply At.tail)) Tryz.underlying3 rfl (by simp only [List.getElem?_toArray, List.getElem?_cons_succ, List.getElem?_cons_zero]; rfl) ?_)
          | ((with_reducible refine gate_dst (N := 50) rfl ?_); refine fr_sub H (n := 15) rfl rfl rfl (by repeat (first | exact At.head | apply At.tail)) Tryz.underlying49 rfl (by kernel_rfl) (by simp only [List.toList_toArray, List.drop_succ_cons, List.drop_zero, List.take_succ_cons, List.take_zero]; rfl) (by rfl) ?_)
          | ((with_reducible refine gate_dst (N := 51) rfl ?_); refine fr_rowv H (N := 51) rfl rfl (fun K hK => by go_simp; exact hK.out) ?_; intro x51 w51 H1; replace H := H1; clear H1)
          | (go_at_call 26; (with_reducible refine (HCN.out _ _ (blk_cell (H.of At.head) 1) (rowH_own H.now.2)).mono ?_); rintro e w' ⟨rfl, hb⟩; have H1 := H.call hb; clear hb; replace H := H1; clear H1)
          | (at_builtin; refine wpList_append_own_at _ rfl _ _ 42 rfl w.heap.size 49 i0 _ 15 128 Tryz.underlying42 hi0 hz0 hz1 hz2 rfl (by decide) (.slice Ao on co) on (flH (unB out)) rfl H.now.2 ⟨x51, 0, none⟩ 1 1 [.int .i64 kind, .int .i64 frm, .int .i64 lo, .int .i64 hi, .int .i64 held, .int .i64 hops, .bool good, .bool ref, .int .i64 slo, .int .i64 shi, .int .i64 pulse, .int .i64 st, .int .i64 sn, .slice Ax nx cx, .int .i64 age] rfl rfl ?hn ?h1 (by unfold maxLen; omega) (by omega) H.chg.size ?_; (case hn => exact new_cells (H.of At.head)); (case h1 => exact encH_one ⟨kind, frm, lo, hi, held, hops, good, ref, slo, shi, pulse, st, sn, Ax, nx, cx, age⟩); intro v2 w2 hown hgrow hnil hat)
          | fail)
      any_goals
        refine ⟨⟨k + 1, out, Ao, on, co, by omega, rfl, rfl, hco, hk16, HON, Lib.hid ?_, Lib.hid H.now.2, (H.drop.drop).imp (fun _ h => h.1)⟩, by simp [intOf]; omega⟩
        rw [HT.out]
        unfold addT
        rw [dif_neg (by rw [HFI.out]; simp)]
      have HD := H.drop.drop.drop
      have HA := Fr.appended HD (fun k h => h) HR0.out H.now.2 (fun y hy => by rcases List.mem_singleton.1 hy with rfl; exact ⟨_, _, rfl, by decide⟩) hgrow
      rcases hown.2 with ⟨_, h3⟩ | ⟨g4, cap, cur, rfl, h3, h4, h5, h6, h7, h8⟩
      · omega
      · have hf1 : firsts p.N me (l.take (k + 1)) = out ++ [⟨⟨kind, frm, lo, hi, held, hops, good, ref, slo, shi, pulse, st, sn, Ax, nx, cx, age⟩, (fitH_bd HFI.out).1, (fitH_bd HFI.out).2⟩] := by
          rw [HT.out]
          unfold addT
          rw [dif_pos HFI.out]
        refine ⟨⟨k + 1, _, some ⟨g4, 0, none⟩, on + 1, cap, by omega, rfl, rfl, h5, ?_, Lib.hid ?_, Lib.hid hf1, Lib.hid ?_, HA⟩, by simp [intOf]; omega⟩
        · have := firsts_len p.N me (l.take (k + 1))
          rw [hf1, List.length_append, HON.out] at this
          simpa using this
        · rw [List.length_append, HON.out]; rfl
        · have e1 : unB (out ++ [⟨⟨kind, frm, lo, hi, held, hops, good, ref, slo, shi, pulse, st, sn, Ax, nx, cx, age⟩, (fitH_bd HFI.out).1, (fitH_bd HFI.out).2⟩]) = unB out ++ [⟨kind, frm, lo, hi, held, hops, good, ref, slo, shi, pulse, st, sn, Ax, nx, cx, age⟩] := by unfold unB; rw [List.map_append]; rfl
          rw [e1, flH_snoc]
          exact hown
    · obtain rfl : k = n := by omega
      have HFA : Hid (firsts p.N me l = out) := Lib.hid (by rw [← HF.out, List.take_of_length_le (by rw [HN.out]; exact Nat.le_refl _)])
      have HSO : Hid (Calls Tryz.prog 28 #[.slice Ao on co, .func (.func 29) #[] #[]] wr fun e w' => e = .returned (.tuple #[]) ∧ w'.ownsRow w.heap.size 49 15 (.slice Ao on co) on (flH (unB (sortB out))) ∧ wr.grownBy w' (Value.slice Ao on co).ownBlock) := Lib.hid (by
        have := SortH_calls w.heap.size (.slice Ao on co) out wr (by rw [HON.out]; exact HO.out) (by rw [HON.out]; omega)
        rw [HON.out] at this
        exact this)
      go_wp2_with (first
        | (go_at_call 28; (with_reducible refine HSO.out.mono ?_); rintro e w' ⟨rfl, hO2, hgrow⟩; have HA := Fr.appended H (fun k h => h) HR0.out HO.out (fun y hy => by rcases List.mem_singleton.1 hy with rfl; exact ⟨_, _, rfl, by decide⟩) hgrow; have HO2 := Lib.hid hO2; clear hO2 hgrow H)
        | fail)
      go_ret
      refine ⟨_, rfl, ?_, HA.below⟩
      unfold told
      rw [HFA.out, sortB_length, HON.out]
      exact HO2.out
end Go.Proofs.YtbmfgcekglgliaaGreat.G

namespace Go.Proofs.YtbmfgcekglgliaaGreat.G
open Go.RowKit Go.Proofs.YtbmfgcekglgliaaGreatW.PrintWords Go.Proofs.YtbmfgcekglgliaaGreatW.PrintLast Go.Proofs.YtbmfgcekglgliaaGreatW.PrintMore Go.Proofs.YtbmfgcekglgliaaGreatPl Go.Proofs.YtbmfgcekglgliaaGreatEm Go.Proofs.YtbmfgcekglgliaaGreatKr Go.Proofs.YtbmfgcekglgliaaGreatRz Go.Proofs.YtbmfgcekglgliaaGreat.X
set_option linter.unusedVariables false
set_option linter.unusedSimpArgs false
def pulseS (p : Par) (s : St) : Int := if syncE (ofP p s.set s.good s.held s.hops) = 0 then numP p s.time else 0
set_option maxRecDepth 100000 in
set_option maxHeartbeats 8000000 in
theorem Say_calls (p : Par) (s : St) (A : Option Addr) (c g : Nat) (me kind : Int) (from_ : Int) (rd : Bool) (slo shi : Int) (w : World) (hg : w.heap[g]? = some (.cells #[.int .i64 p.N, .int .i64 p.F, .int .i64 p.D, .int .i64 p.Be, .int .i64 p.Rho, .int .i64 p.De, .int .i64 p.Ji, .int .i64 p.Eps, .int .i64 p.Mu, .int .i64 p.Ho, .int .i64 p.Pu, .int .i64 p.Se, .int .i64 s.lo, .int .i64 s.hi, .int .i64 s.time, .bool s.set, .int .i64 s.held, .int .i64 s.hops, .bool s.good, .slice A s.tab.length c, .int .i64 s.st, .int .i64 s.sn, .int .i64 s.life, .int .i64 me] 41 (0, 0))) (hr : Tr (fun k => k = g) w (fun W => Kd.C k58 W A s.tab.length s.tab)) (hl : s.tab.length ≤ 4096) :
    Calls Tryz.prog 15 #[.pointer (some ⟨g, 0, none⟩), .int .i64 kind, .int .i64 from_, .bool rd, .agg #[.int .i64 slo, .int .i64 shi]] w fun e w' => ∃ A' c', e = .returned (.agg #[.int .i64 kind, .int .i64 from_, .int .i64 s.lo, .int .i64 s.hi, .int .i64 s.held, .int .i64 s.hops, .bool s.good, .bool rd, .int .i64 slo, .int .i64 shi, .int .i64 (pulseS p s), .int .i64 (tickP s.st s.sn s.time).1, .int .i64 (tickP s.st s.sn s.time).2, .slice A' s.tab.length c']) ∧ w'.heap[g]? = some (.cells #[.int .i64 p.N, .int .i64 p.F, .int .i64 p.D, .int .i64 p.Be, .int .i64 p.Rho, .int .i64 p.De, .int .i64 p.Ji, .int .i64 p.Eps, .int .i64 p.Mu, .int .i64 p.Ho, .int .i64 p.Pu, .int .i64 p.Se, .int .i64 s.lo, .int .i64 s.hi, .int .i64 s.time, .bool s.set, .int .i64 s.held, .int .i64 s.hops, .bool s.good, .slice A s.tab.length c, .int .i64 (tickP s.st s.sn s.time).1, .int .i64 (tickP s.st s.sn s.time).2, .int .i64 s.life, .int .i64 me] 41 (0, 0)) ∧ w'.ownsRow w.heap.size 58 2 (.slice A' s.tab.length c') s.tab.length (flL s.tab) ∧ Chg (fun k => k = g) w w' := by
  have H := Fr.start1 (M := fun k => k = g) (A := fun _ => False) (p := fun W => Kd.C k58 W A s.tab.length s.tab) (fun _ h => h.elim) hg rfl (Tr.less hr (fun k _ q => q.resolve_left id))
  have KP : Hid (∀ W, W.heap[g]? = some (.cells #[.int .i64 p.N, .int .i64 p.F, .int .i64 p.D, .int .i64 p.Be, .int .i64 p.Rho, .int .i64 p.De, .int .i64 p.Ji, .int .i64 p.Eps, .int .i64 p.Mu, .int .i64 p.Ho, .int .i64 p.Pu, .int .i64 p.Se, .int .i64 s.lo, .int .i64 s.hi, .int .i64 s.time, .bool s.set, .int .i64 s.held, .int .i64 s.hops, .bool s.good, .slice A s.tab.length c, .int .i64 s.st, .int .i64 s.sn, .int .i64 s.life, .int .i64 me] 41 (0, 0)) → Calls Tryz.prog 43 #[.pointer (some ⟨g, 0, none⟩)] W fun e w' => e = .returned (.tuple #[.int .i64 (pulseS p s), .int .i64 (syncE (ofP p s.set s.good s.held s.hops))]) ∧ Below W.heap.size W w') := Lib.hid (fun W h => Pulse_calls p s A c g me W h)
  have KS := Lib.hid (fun W h => Stamp_calls p s A c g me W h)
  have HCL : Hid (∀ W, Kd.C k58 W A s.tab.length s.tab → Calls Tryz.prog 45 #[.slice A s.tab.length c] W fun e w' => ∃ u, e = .returned u ∧ w'.ownsRow W.heap.size 58 2 u s.tab.length (flL s.tab) ∧ Below W.heap.size W w') := Lib.hid (fun W h => Clone_calls A c s.tab W h hl)
  obtain ⟨pu, hpu⟩ : ∃ x, pulseS p s = x := ⟨_, rfl⟩
  obtain ⟨y, hy⟩ : ∃ x, syncE (ofP p s.set s.good s.held s.hops) = x := ⟨_, rfl⟩
  obtain ⟨⟨t1, t2⟩, ht⟩ : ∃ x, tickP s.st s.sn s.time = x := ⟨_, rfl⟩
  obtain ⟨lo, hi, time, set, held, hops, good, tab, st, sn, life⟩ := s
  obtain ⟨n, hn⟩ : ∃ x, tab.length = x := ⟨_, rfl⟩
  have HN := Lib.hid hn
  rw [hpu, hy] at KP
  rw [ht] at KS
  rw [hpu, ht]
  dsimp only at H KP KS HCL ⊢
  rw [hn] at H KP KS HCL ⊢
  clear hg hr hl hpu hy ht hn
  go_enter Tryz.func15, Tryz.ntmps15
  go_wp2_with (first
    | (go_at_call 43; (with_reducible refine (KP.out _ (H.of (by repeat (first | exact At.head | apply At.tail)))).mono ?_); rintro e w' ⟨rfl, hb⟩; have H1 := H.call hb; clear hb; replace H := H1; clear H1)
    | (go_at_call 44; (with_reducible refine (KS.out _ (H.of (by repeat (first | exact At.head | apply At.tail)))).mono ?_); rintro e w' ⟨rfl, hb, hc⟩; have H1 := H.turn (by repeat (first | exact At.head | apply At.tail)) hb hc; clear hb hc; replace H := H1; clear H1)
    | ((with_reducible refine gate_dst (N := 9) rfl ?_); refine fr_box H rfl rfl rfl ?_; intro g9 w9 H1; replace H := H1; clear H1)
    | ((with_reducible refine gate_dst (N := 10) rfl ?_); refine fr_new H (N := 10) rfl rfl (cs := #[.int .i64 0, .int .i64 0, .int .i64 0, .int .i64 0, .int .i64 0, .int .i64 0, .bool false, .bool false, .int .i64 0, .int .i64 0, .int .i64 0, .int .i64 0, .int .i64 0, .slice none 0 0]) (t := 47) ?hr ?_; (case hr => first | (go_simp; done) | (go_simp; rfl)); intro g10 w10 H1; replace H := H1; clear H1)
    | ((with_reducible refine gate_store (t := 47) (p := 10) rfl ?_); refine fr_put H rfl rfl rfl rfl rfl (by repeat (first | exact At.head | apply At.tail)) (by rfl) (by kernel_rfl) (by simp [Value.oneCell']) ?_; intro w10_ H1; replace H := H1; clear H1)
    | ((with_reducible refine gate_dst (N := 13) rfl ?_); refine fr_new H (N := 13) rfl rfl (cs := #[.int .i64 0, .int .i64 0]) (t := 28) ?hr ?_; (case hr => first | (go_simp; done) | (go_simp; rfl)); intro g13 w13 H1; replace H := H1; clear H1)
    | ((with_reducible refine gate_store (t := 28) (p := 13) rfl ?_); refine fr_put H rfl rfl rfl rfl rfl (by repeat (first | exact At.head | apply At.tail)) (by rfl) (by kernel_rfl) (by simp [Value.oneCell']) ?_; intro w13_ H1; replace H := H1; clear H1)
    | ((with_reducible refine gate_dst (N := 32) rfl ?_); refine fr_sub H (n := 11) rfl rfl rfl (by repeat (first | exact At.head | apply At.tail)) Tryz.underlying30 rfl (by kernel_rfl) (by simp only [List.toList_toArray, List.drop_succ_cons, List.drop_zero, List.take_succ_cons, List.take_zero]; rfl) (by rfl) ?_)
    | ((with_reducible refine gate_dst (N := 15) rfl ?_); refine fr_new H (N := 15) rfl rfl (cs := #[.int .i64 0, .int .i64 0, .int .i64 0, .bool false, .int .i64 0, .int .i64 0, .bool false, .slice none 0 0, .int .i64 0, .int .i64 0, .int .i64 0]) (t := 30) ?hr ?_; (case hr => first | (go_simp; done) | (go_simp; rfl)); intro g15 w15 H1; replace H := H1; clear H1)
    | ((with_reducible refine gate_store (t := 30) (p := 15) rfl ?_); refine fr_put H rfl rfl rfl rfl rfl (by repeat (first | exact At.head | apply At.tail)) (by rfl) (by kernel_rfl) (by simp [Value.oneCell']) ?_; intro w15_ H1; replace H := H1; clear H1)
    | fail)
  refine ro_start (Frs _ _ _ _ _) [18] [0, 1, 2, 3, 4, 5, 6, 7, 8, 9, 10, 11, 12, 13, 14, 15, 16, 17, 18] 19 (by kernel_rfl) (by rfl) (by simp only [pickR, List.getElem?_cons_succ, List.getElem?_cons_zero]; rfl) (by rfl) (H.drewN 1) (fun HS => ?_)
  have H1 : Fr _ _ _ _ _ _ := HS
  clear HS H
  have H := H1
  clear H1
  repeat (first
    | ((with_reducible refine rz_call (f := 45) rfl ?_); refine ro_call 45 _ rfl (by kernel_rfl) (by kernel_rfl) (by rfl) Tryz.func45 (by kernel_rfl) rfl (by simp only [List.map_toArray, List.map_cons, List.map_nil]; rfl) ?_; (refine (HCL.out _ H.now).mono ?_); rintro e w' ⟨u, rfl, ho, hb⟩; obtain ⟨A1, c1, rfl, hc1, _⟩ := row_C ho HN.out; have HT := Tr_row H.avs H.chg.size ho; have H2 := H.call2 hb HT; have H1 := H.call hb; refine ⟨_, rfl, H1, fun _ => ?_⟩; clear hb ho HT H1 H; have H := H2; clear H2; (try simp only [Act.put, lsA, lsZ, lsS, Nat.reduceAdd]))
    | ((with_reducible refine rz_load (ty := 25) rfl ?_); refine ro_sub H (m := 2) rfl (by kernel_rfl) (fun _ _ _ h => h) (by rfl) (by rfl) (by repeat (first | exact At.head | apply At.tail)) Tryz.underlying25 rfl (by kernel_rfl) (by simp only [List.toList_toArray, List.drop_succ_cons, List.drop_zero, List.take_succ_cons, List.take_zero]; rfl) (by rfl) ?_; (try simp only [Act.put, lsA, lsZ, lsS, Nat.reduceAdd]))
    | ((with_reducible refine rz_load (ty := 3) rfl ?_); refine ro_get H rfl (by kernel_rfl) (fun _ _ _ h => h) (by rfl) (by rfl) (by repeat (first | exact At.head | apply At.tail)) Tryz.underlying3 rfl (by simp only [List.getElem?_toArray, List.getElem?_cons_succ, List.getElem?_cons_zero]; rfl) ?_; (try simp only [Act.put, lsA, lsZ, lsS, Nat.reduceAdd]))
    | ((with_reducible refine rz_load (ty := 4) rfl ?_); refine ro_get H rfl (by kernel_rfl) (fun _ _ _ h => h) (by rfl) (by rfl) (by repeat (first | exact At.head | apply At.tail)) Tryz.underlying4 rfl (by simp only [List.getElem?_toArray, List.getElem?_cons_succ, List.getElem?_cons_zero]; rfl) ?_; (try simp only [Act.put, lsA, lsZ, lsS, Nat.reduceAdd]))
    | ((with_reducible refine rz_load (ty := 28) rfl ?_); refine ro_sub H (m := 2) rfl (by kernel_rfl) (fun _ _ _ h => h) (by rfl) (by rfl) (by repeat (first | exact At.head | apply At.tail)) Tryz.underlying28 rfl (by kernel_rfl) (by simp only [List.toList_toArray, List.drop_succ_cons, List.drop_zero, List.take_succ_cons, List.take_zero]; rfl) (by rfl) ?_; (try simp only [Act.put, lsA, lsZ, lsS, Nat.reduceAdd]))
    | ((with_reducible refine rz_load (ty := 26) rfl ?_); refine ro_get H rfl (by kernel_rfl) (fun _ _ _ h => h) (by rfl) (by rfl) (by repeat (first | exact At.head | apply At.tail)) Tryz.underlying26 rfl (by simp only [List.getElem?_toArray, List.getElem?_cons_succ, List.getElem?_cons_zero]; rfl) ?_; (try simp only [Act.put, lsA, lsZ, lsS, Nat.reduceAdd]))
    | ((with_reducible refine rz_store (ty := 47) rfl ?_); refine ro_set H (u := .agg (List.toArray _)) rfl rfl (by kernel_rfl) (by kernel_rfl) (by rfl) (by rfl) (by rfl) (by repeat (first | exact At.head | apply At.tail)) (Nat.le_of_ble_eq_true rfl) (by simp only [Value.cells, List.take_succ_cons, List.take_zero, List.drop_succ_cons, List.drop_zero, List.cons_append, List.nil_append, List.size_toArray, List.length_cons, List.length_nil, Nat.reduceAdd, List.append_nil, List.drop_nil, List.take_nil, List.toList_toArray]; rfl) (by kernel_rfl) (by simp [Value.cells, Value.oneCell']) ?_; intro w1 H1; replace H := H1; clear H1; (try simp only [Act.put, lsA, lsZ, lsS, Nat.reduceAdd]))
    | (refine ro_off (by kernel_rfl) (fun _ _ _ h => h) (by rfl) ?_; (try simp only [Act.put, lsA, lsZ, lsS, Nat.reduceAdd]))
    | (refine ro_pure (by kernel_rfl) (fun _ _ _ h => h) (by rfl) (fun W K hK => by go_simp; exact hK.out) ?_; (try simp only [Act.put, lsA, lsZ, lsS, Nat.reduceAdd])))
  refine ro_done (by kernel_rfl) ?_
  go_wp2
  refine bodyPost_ret (results_c rfl _ _ g10 47 _ (0, 0) _ rfl (H.of (by repeat (first | exact At.head | apply At.tail))) Tryz.underlying47 rfl (by kernel_rfl)) rfl ?_
  exact ⟨A1, c1, rfl, H.of (by repeat (first | exact At.head | apply At.tail)), H.now.2, H.chg⟩
end Go.Proofs.YtbmfgcekglgliaaGreat.G
