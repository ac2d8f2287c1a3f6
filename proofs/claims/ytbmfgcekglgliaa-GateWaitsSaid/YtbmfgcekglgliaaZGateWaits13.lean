/- Texts GateWaits, GateWaitsC, in one file, without what is not needed here. -/
import Derived.Test.YtbmfgcekglgliaaZGateWaits12
namespace Go.Proofs.Ytbmfgcekglgliaa.G
open Go.RowKit Go.Proofs.YtbmfgcekglgliaaW.PrintWords Go.Proofs.YtbmfgcekglgliaaW.PrintLast Go.Proofs.YtbmfgcekglgliaaW.PrintMore Go.Proofs.YtbmfgcekglgliaaPl Go.Proofs.YtbmfgcekglgliaaEm Go.Proofs.YtbmfgcekglgliaaKr Go.Proofs.YtbmfgcekglgliaaRz Go.Proofs.Ytbmfgcekglgliaa.X
set_option linter.unusedVariables false
set_option linter.unusedSimpArgs false
theorem check_bd {p : Par} (h : checkP p = true) : (1 ≤ p.N ∧ p.N ≤ 16) ∧ (0 ≤ p.F ∧ p.F ≤ (p.N - 1) / 3) ∧ (0 ≤ p.D ∧ p.D ≤ 16) ∧ (1 ≤ p.Be ∧ p.Be ≤ 1099511627776) ∧ (0 ≤ p.Rho ∧ p.Rho ≤ p.Be / 8) ∧ (0 ≤ p.De ∧ p.De ≤ p.Be / 2) ∧ (0 ≤ p.Ji ∧ p.Ji ≤ p.De) ∧ (0 ≤ p.Eps ∧ p.Eps ≤ 1099511627776) ∧ (p.Rho + 1 ≤ p.Mu ∧ p.Mu ≤ p.Be / 4) ∧ (p.D + 2 ≤ p.Ho ∧ p.Ho ≤ 1048576) ∧ (1 ≤ p.Pu ∧ p.Pu ≤ 1099511627776) := by
  unfold checkP at h
  simp only [Bool.and_eq_true] at h
  obtain ⟨⟨⟨⟨⟨⟨⟨⟨h1, h2⟩, h3⟩, ⟨⟨h4, h5⟩, h6⟩, h7⟩, h8⟩, h9⟩, h10⟩, h11⟩, h12⟩ := h
  exact ⟨in_bd h1, in_bd h2, in_bd h3, in_bd h4, in_bd h5, in_bd h6, in_bd h7, in_bd h8, in_bd h9, in_bd h10, in_bd h11⟩
def pWa (Al : Option Addr) (l : List Hd) (As : Option Addr) (ts : List Lp) (W : World) : Prop := RowH W Al l ∧ Kd.C k82 W As ts.length ts
set_option maxRecDepth 100000 in
set_option maxHeartbeats 40000000 in
theorem Waits_calls (p : Par) (s : St) (As : Option Addr) (cs : Nat) (now err : Int) (l : List Hd) (Al : Option Addr) (cl : Nat) (w : World) (hr : Tr (fun _ => False) w (pWa Al l As s.tab)) (hl : l.length ≤ 9223372036854775807) :
    Calls Try.prog 4 #[.agg #[.int .i64 p.N, .int .i64 p.F, .int .i64 p.D, .int .i64 p.Be, .int .i64 p.Rho, .int .i64 p.De, .int .i64 p.Ji, .int .i64 p.Eps, .int .i64 p.Mu, .int .i64 p.Ho, .int .i64 p.Pu, .int .i64 p.Se], .agg #[.int .i64 s.lo, .int .i64 s.hi, .int .i64 s.time, .bool s.set, .int .i64 s.held, .int .i64 s.hops, .bool s.good, .slice As s.tab.length cs, .int .i64 s.st, .int .i64 s.sn, .int .i64 s.life], .int .i64 now, .slice Al l.length cl, .int .i64 err] w fun e w' => e = .returned (.bool true) ∧ Below w.heap.size w w' := by
  have H := Fr.start0 (M := fun _ => False) (A := fun _ => False) (w := w) (p := pWa Al l As s.tab) (fun _ h => h.elim) hr
  obtain ⟨b1, hb1⟩ : ∃ b, greatP s.tab.length [⟨⟨0, l, false, 0, false, []⟩, Al, cl, none, 0⟩] = b := ⟨_, rfl⟩
  obtain ⟨ck, hck⟩ : ∃ b, checkP p = b := ⟨_, rfl⟩
  have KC : Hid (∀ W, Calls Try.prog 7 #[.agg #[.int .i64 p.N, .int .i64 p.F, .int .i64 p.D, .int .i64 p.Be, .int .i64 p.Rho, .int .i64 p.De, .int .i64 p.Ji, .int .i64 p.Eps, .int .i64 p.Mu, .int .i64 p.Ho, .int .i64 p.Pu, .int .i64 p.Se]] W fun e w' => e = .returned (.int .i64 (if ck = true then 0 else 1)) ∧ Below W.heap.size W w') := Lib.hid (fun W => by have := Check_calls p W; rw [hck] at this; exact this)
  have KG : Hid (∀ W y, Tr (fun _ => False) W (fun W => RowI W (some ⟨y, 0, none⟩) [⟨⟨0, l, false, 0, false, []⟩, Al, cl, none, 0⟩]) → Calls Try.prog 8 #[.agg #[.int .i64 s.lo, .int .i64 s.hi, .int .i64 s.time, .bool s.set, .int .i64 s.held, .int .i64 s.hops, .bool s.good, .slice As s.tab.length cs, .int .i64 s.st, .int .i64 s.sn, .int .i64 s.life], .slice (some ⟨y, 0, none⟩) 1 1] W fun e w' => e = .returned (.bool b1) ∧ Below W.heap.size W w') := Lib.hid (fun W y h => by
    have := great_calls s.lo s.hi s.time s.set s.held s.hops s.good As s.tab.length cs s.st s.sn s.life (some ⟨y, 0, none⟩) 1 [⟨⟨0, l, false, 0, false, []⟩, Al, cl, none, 0⟩] W h (by simp) (fun y hy => by rw [List.mem_singleton.1 hy]; exact hl)
    rw [hb1] at this
    exact this)
  obtain ⟨z, hz⟩ : ∃ z, saneS p.D s = z := ⟨_, rfl⟩
  obtain ⟨u, hu⟩ : ∃ u, beatS p 0 z ⟨p.Be + err, l, false, 0, false, []⟩ = u := ⟨_, rfl⟩
  have HLA : Hid (b1 = false → l.length ≤ 4096 ∧ s.tab.length ≤ 4096 ∧ z.tab.length ≤ 4096) := Lib.hid (fun h => by
    rw [h] at hb1
    have := great_no hb1
    have h2 := saneS_tab p.D s
    rw [hz] at h2
    dsimp only at this
    omega)
  have KN : Hid (∀ W, b1 = false → pWa Al l As s.tab W → Calls Try.prog 9 #[.agg #[.int .i64 p.N, .int .i64 p.F, .int .i64 p.D, .int .i64 p.Be, .int .i64 p.Rho, .int .i64 p.De, .int .i64 p.Ji, .int .i64 p.Eps, .int .i64 p.Mu, .int .i64 p.Ho, .int .i64 p.Pu, .int .i64 p.Se], .int .i64 0, .agg #[.int .i64 s.lo, .int .i64 s.hi, .int .i64 s.time, .bool s.set, .int .i64 s.held, .int .i64 s.hops, .bool s.good, .slice As s.tab.length cs, .int .i64 s.st, .int .i64 s.sn, .int .i64 s.life]] W fun e w' => ∃ g A' c', e = .returned (.pointer (some ⟨g, 0, none⟩)) ∧ W.heap.size ≤ g ∧ w'.heap[g]? = some (.cells #[.int .i64 p.N, .int .i64 p.F, .int .i64 p.D, .int .i64 p.Be, .int .i64 p.Rho, .int .i64 p.De, .int .i64 p.Ji, .int .i64 p.Eps, .int .i64 p.Mu, .int .i64 p.Ho, .int .i64 p.Pu, .int .i64 p.Se, .int .i64 z.lo, .int .i64 z.hi, .int .i64 z.time, .bool z.set, .int .i64 z.held, .int .i64 z.hops, .bool z.good, .slice A' z.tab.length c', .int .i64 z.st, .int .i64 z.sn, .int .i64 z.life, .int .i64 0] 52 (0, 0)) ∧ w'.ownsRow W.heap.size 82 2 (.slice A' z.tab.length c') z.tab.length (flL z.tab) ∧ (∀ ad, A' = some ad → ad.block ≠ g) ∧ Below W.heap.size W w') := Lib.hid (fun W hb h => New_to p 0 s As cs W z hz h.2 (HLA.out hb).2.1)
  have KB : Hid (∀ W g A c, b1 = false → W.heap[g]? = some (.cells #[.int .i64 p.N, .int .i64 p.F, .int .i64 p.D, .int .i64 p.Be, .int .i64 p.Rho, .int .i64 p.De, .int .i64 p.Ji, .int .i64 p.Eps, .int .i64 p.Mu, .int .i64 p.Ho, .int .i64 p.Pu, .int .i64 p.Se, .int .i64 z.lo, .int .i64 z.hi, .int .i64 z.time, .bool z.set, .int .i64 z.held, .int .i64 z.hops, .bool z.good, .slice A z.tab.length c, .int .i64 z.st, .int .i64 z.sn, .int .i64 z.life, .int .i64 0] 52 (0, 0)) → Tr (fun k => k = g) W (fun W => pWa Al l As s.tab W ∧ W.ownsRow w.heap.size 82 2 (.slice A z.tab.length c) z.tab.length (flL z.tab)) → Calls Try.prog 10 #[.pointer (some ⟨g, 0, none⟩), .agg #[.int .i64 (p.Be + err), .slice Al l.length cl, .bool false, .int .i64 0, .bool false, .slice none 0 0]] W fun e w' => ∃ v A1 c1, e = .returned v ∧ w'.heap[g]? = some (.cells #[.int .i64 p.N, .int .i64 p.F, .int .i64 p.D, .int .i64 p.Be, .int .i64 p.Rho, .int .i64 p.De, .int .i64 p.Ji, .int .i64 p.Eps, .int .i64 p.Mu, .int .i64 p.Ho, .int .i64 p.Pu, .int .i64 p.Se, .int .i64 u.lo, .int .i64 u.hi, .int .i64 u.time, .bool u.set, .int .i64 u.held, .int .i64 u.hops, .bool u.good, .slice A1 u.tab.length c1, .int .i64 u.st, .int .i64 u.sn, .int .i64 u.life, .int .i64 0] 52 (0, 0)) ∧ Chg (fun k => k = g) W w') := Lib.hid (fun W g A c hb h1 h2 => by
    refine (Beat_to p 0 z A c g ⟨p.Be + err, l, false, 0, false, []⟩ Al cl none 0 W u hu h1 (Foot.imp h2 (fun W' h => ⟨h.1.1, leaps_nil _, own_C h.2 rfl⟩)) (HLA.out hb).1 (by simp) (HLA.out hb).2.2).mono ?_
    rintro e w' ⟨A1, c1, A2, c2, h3, h4, _, _, _, h5⟩
    exact ⟨_, A1, c1, h3, h4, h5⟩)
  have HW : Hid (ck = true → -1125899906842624 ≤ now ∧ now ≤ 1125899906842624 → (l.length : Int) ≤ 2 * p.F → -p.Rho ≤ err ∧ err ≤ p.Rho → 0 ≤ s.held ∧ s.held ≤ 1048576 → s.lo ≤ now ∧ now ≤ s.hi ∧ -36028797018963968 ≤ s.lo ∧ s.hi ≤ 36028797018963968 → u.lo ≤ now + p.Be ∧ now + p.Be ≤ u.hi ∧ u.hi - u.lo = s.hi - s.lo + 2 * p.Rho ∧ u.held = s.held + 1 ∧ u.hops = 0 ∧ -2305843009213693952 ≤ u.lo ∧ u.hi ≤ 2305843009213693952) := Lib.hid (fun hc h1 h2 h3 h4 h5 => by
    rw [hc] at hck
    obtain ⟨c1, c2, c3, c4, c5, c6, _⟩ := check_bd hck
    have := waits p 0 now err s ⟨p.Be + err, l, false, 0, false, []⟩ c4 (by omega) c3 c2.1 rfl h2 rfl h1 h3 h4 h5
    rw [hz] at this
    rw [← hu]
    exact this)
  have HCB : Hid (ck = true → (1 ≤ p.N ∧ p.N ≤ 16) ∧ (0 ≤ p.F ∧ p.F ≤ (p.N - 1) / 3) ∧ (1 ≤ p.Be ∧ p.Be ≤ 1099511627776) ∧ (0 ≤ p.Rho ∧ p.Rho ≤ p.Be / 8)) := Lib.hid (fun h => by
    rw [h] at hck
    obtain ⟨c1, c2, c3, c4, c5, _⟩ := check_bd hck
    exact ⟨c1, c2, c4, c5⟩)
  obtain ⟨k2, h2⟩ : ∃ b, decide ((1125899906842624 : Int) < now) = b := ⟨_, rfl⟩
  obtain ⟨k3, h3⟩ : ∃ b, decide (now < -1125899906842624) = b := ⟨_, rfl⟩
  obtain ⟨f2, hf2⟩ : ∃ f, 2 * p.F = f := ⟨_, rfl⟩
  obtain ⟨k4, h4⟩ : ∃ b, decide (f2 < (l.length : Int)) = b := ⟨_, rfl⟩
  obtain ⟨k5, h5⟩ : ∃ b, decide (p.Rho < err) = b := ⟨_, rfl⟩
  obtain ⟨nr, hnr⟩ : ∃ f, -p.Rho = f := ⟨_, rfl⟩
  obtain ⟨k6, h6⟩ : ∃ b, decide (err < nr) = b := ⟨_, rfl⟩
  obtain ⟨k7, h7⟩ : ∃ b, decide (s.held < 0) = b := ⟨_, rfl⟩
  obtain ⟨k8, h8⟩ : ∃ b, decide (1048576 < s.held) = b := ⟨_, rfl⟩
  obtain ⟨j1, g1⟩ : ∃ b, decide (now < s.lo) = b := ⟨_, rfl⟩
  obtain ⟨j2, g2⟩ : ∃ b, decide (s.hi < now) = b := ⟨_, rfl⟩
  obtain ⟨j3, g3⟩ : ∃ b, decide (s.lo < -36028797018963968) = b := ⟨_, rfl⟩
  obtain ⟨j4, g4⟩ : ∃ b, decide (36028797018963968 < s.hi) = b := ⟨_, rfl⟩
  have HQ := Lib.hid (And.intro hf2 hnr)
  have HHE : Hid (∀ W, pWa Al l As s.tab W → RowH W Al l) := Lib.hid (fun W h => h.1)
  have HWF : Hid (ck = true → k2 = false → k3 = false → k4 = false → k5 = false → k6 = false → k7 = false → k8 = false → j1 = false → j2 = false → j3 = false → j4 = false → u.lo ≤ now + p.Be ∧ now + p.Be ≤ u.hi ∧ u.hi - u.lo = s.hi - s.lo + 2 * p.Rho ∧ u.held = s.held + 1 ∧ u.hops = 0 ∧ -2305843009213693952 ≤ u.lo ∧ u.hi ≤ 2305843009213693952 ∧ -36028797018963968 ≤ s.lo ∧ s.hi ≤ 36028797018963968 ∧ s.lo ≤ s.hi ∧ 0 ≤ s.held ∧ s.held ≤ 1048576 ∧ -p.Rho ≤ err ∧ err ≤ p.Rho ∧ -1125899906842624 ≤ now ∧ now ≤ 1125899906842624) := Lib.hid (fun hc e2 e3 e4 e5 e6 e7 e8 i1 i2 i3 i4 => by
    rw [e2] at h2; rw [e3] at h3; rw [e4] at h4; rw [e5] at h5; rw [e6] at h6; rw [e7] at h7; rw [e8] at h8; rw [i1] at g1; rw [i2] at g2; rw [i3] at g3; rw [i4] at g4
    have h2 := of_decide_eq_false h2
    have h3 := of_decide_eq_false h3
    have h4 := of_decide_eq_false h4
    have h5 := of_decide_eq_false h5
    have h6 := of_decide_eq_false h6
    have h7 := of_decide_eq_false h7
    have h8 := of_decide_eq_false h8
    have g1 := of_decide_eq_false g1
    have g2 := of_decide_eq_false g2
    have g3 := of_decide_eq_false g3
    have g4 := of_decide_eq_false g4
    obtain ⟨r1, r2, r3, r4, r5, r6, r7⟩ := HW.out hc (by omega) (by omega) (by omega) (by omega) (by omega)
    exact ⟨r1, r2, r3, r4, r5, r6, r7, by omega, by omega, by omega, by omega, by omega, by omega, by omega, by omega, by omega⟩)
  clear HW
  obtain ⟨slo, shi, stime, sset, sheld, shops, sgood, stab, sst, ssn, slife⟩ := s
  obtain ⟨zlo, zhi, ztime, zset, zheld, zhops, zgood, ztab, zst, zsn, zlife⟩ := z
  obtain ⟨ulo, uhi, utime, uset, uheld, uhops, ugood, utab, ust, usn, ulife⟩ := u
  dsimp only at KG KN KB HWF H HHE HLA hr h7 h8 g1 g2 g3 g4 ⊢
  obtain ⟨n, hn⟩ : ∃ n, l.length = n := ⟨_, rfl⟩
  obtain ⟨ns, hns⟩ : ∃ n, stab.length = n := ⟨_, rfl⟩
  have HEN : Hid (encI ⟨⟨0, l, false, 0, false, []⟩, Al, cl, none, 0⟩ = [.int .i64 0, .slice Al n cl, .bool false, .int .i64 0, .bool false, .slice none 0 0]) := Lib.hid (by unfold encI; dsimp only; rw [hn]; rfl)
  rw [hn] at KB h4
  rw [hns] at KG KN
  rw [hn, hns]
  clear hn hns hr hb1 hck hz hu hl HLA hf2 hnr
  go_enter Try.func4, Try.ntmps4
  cases ck
  case false =>
    go_wp2_with (first
      | (go_at_call 6; (with_reducible refine (alive_calls _).mono ?_); rintro e w' ⟨rfl, hb⟩; have H1 := H.call hb; clear hb; clear H; have H := H1; clear H1)
      | (go_at_call 7; (with_reducible refine (KC.out _).mono ?_); rintro e w' ⟨rfl, hb⟩; have H1 := H.call hb; clear hb; clear H; have H := H1; clear H1)
      | (go_at_call 8; have HT := rowI_one (y := ⟨⟨0, l, false, 0, false, []⟩, Al, cl, none, 0⟩) H (by rw [HEN.out]; exact H.of At.head) HHE.out; (with_reducible refine (KG.out _ _ HT).mono ?_); clear HT; rintro e w' ⟨rfl, hb⟩; have H1 := H.call hb; clear hb; clear H; have H := H1; clear H1)
      | ((with_reducible refine gate_dst (N := 5) rfl ?_); refine fr_box H rfl rfl rfl ?_; intro g5 w5 H1; clear H; have H := H1; clear H1)
      | ((with_reducible refine gate_dst (N := 6) rfl ?_); refine fr_box H rfl rfl rfl ?_; intro g6 w6 H1; clear H; have H := H1; clear H1)
      | ((with_reducible refine gate_dst (N := 16) rfl ?_); refine fr_sub H (n := 12) rfl rfl rfl (by repeat (first | exact At.head | apply At.tail)) Try.underlying23 rfl (by kernel_rfl) (by simp only [List.toList_toArray, List.drop_succ_cons, List.drop_zero, List.take_succ_cons, List.take_zero]; rfl) (by rfl) ?_)
      | ((with_reducible refine gate_dst (N := 20) rfl ?_); (try (refine gate_guard (by rfl) ?_; dsimp only)); refine fr_sub H (n := 11) rfl rfl rfl (by repeat (first | exact At.head | apply At.tail)) Try.underlying30 rfl (by kernel_rfl) (by simp only [List.toList_toArray, List.drop_succ_cons, List.drop_zero, List.take_succ_cons, List.take_zero]; rfl) (by rfl) ?_)
      | ((with_reducible refine gate_dst (N := 23) rfl ?_); (try (refine gate_guard (by rfl) ?_; dsimp only)); refine fr_rowv H (N := 23) rfl rfl (fun K hK => by go_simp; exact hK.out) ?_; intro x23 w23 H1; clear H; have H := H1; clear H1)
      | ((with_reducible refine gate_dst (N := 38) rfl ?_); (try (refine gate_guard (by rfl) ?_; dsimp only)); refine fr_get H rfl rfl rfl (by repeat (first | exact At.head | apply At.tail)) Try.underlying3 rfl (by simp only [List.getElem?_toArray, List.getElem?_cons_succ, List.getElem?_cons_zero]; rfl) ?_)
      | ((with_reducible refine gate_dst (N := 45) rfl ?_); (try (refine gate_guard (by rfl) ?_; dsimp only)); refine fr_get H rfl rfl rfl (by repeat (first | exact At.head | apply At.tail)) Try.underlying3 rfl (by simp only [List.getElem?_toArray, List.getElem?_cons_succ, List.getElem?_cons_zero]; rfl) ?_)
      | ((with_reducible refine gate_dst (N := 51) rfl ?_); (try (refine gate_guard (by rfl) ?_; dsimp only)); refine fr_get H rfl rfl rfl (by repeat (first | exact At.head | apply At.tail)) Try.underlying3 rfl (by simp only [List.getElem?_toArray, List.getElem?_cons_succ, List.getElem?_cons_zero]; rfl) ?_)
      | ((with_reducible refine gate_dst (N := 57) rfl ?_); (try (refine gate_guard (by rfl) ?_; dsimp only)); refine fr_get H rfl rfl rfl (by repeat (first | exact At.head | apply At.tail)) Try.underlying3 rfl (by simp only [List.getElem?_toArray, List.getElem?_cons_succ, List.getElem?_cons_zero]; rfl) ?_)
      | ((with_reducible refine gate_dst (N := 62) rfl ?_); (try (refine gate_guard (by rfl) ?_; dsimp only)); refine fr_get H rfl rfl rfl (by repeat (first | exact At.head | apply At.tail)) Try.underlying3 rfl (by simp only [List.getElem?_toArray, List.getElem?_cons_succ, List.getElem?_cons_zero]; rfl) ?_)
      | ((with_reducible refine gate_dst (N := 67) rfl ?_); refine fr_get H rfl rfl rfl (by repeat (first | exact At.head | apply At.tail)) Try.underlying3 rfl (by simp only [List.getElem?_toArray, List.getElem?_cons_succ, List.getElem?_cons_zero]; rfl) ?_)
      | ((with_reducible refine gate_dst (N := 73) rfl ?_); (try (refine gate_guard (by rfl) ?_; dsimp only)); refine fr_get H rfl rfl rfl (by repeat (first | exact At.head | apply At.tail)) Try.underlying3 rfl (by simp only [List.getElem?_toArray, List.getElem?_cons_succ, List.getElem?_cons_zero]; rfl) ?_)
      | ((with_reducible refine gate_dst (N := 80) rfl ?_); (try (refine gate_guard (by rfl) ?_; dsimp only)); refine fr_get H rfl rfl rfl (by repeat (first | exact At.head | apply At.tail)) Try.underlying3 rfl (by simp only [List.getElem?_toArray, List.getElem?_cons_succ, List.getElem?_cons_zero]; rfl) ?_)
      | ((with_reducible refine gate_dst (N := 86) rfl ?_); (try (refine gate_guard (by rfl) ?_; dsimp only)); refine fr_get H rfl rfl rfl (by repeat (first | exact At.head | apply At.tail)) Try.underlying3 rfl (by simp only [List.getElem?_toArray, List.getElem?_cons_succ, List.getElem?_cons_zero]; rfl) ?_)
      | fail)
    go_ret
    exact ⟨rfl, H.below⟩
  have hc0 := HCB.out rfl
  have hw1 : IntKind.i64.wrap (2 * p.F) = f2 := by rw [IntKind.wrap_i64]; have := HQ.out; omega
  have hw2 : IntKind.i64.wrap (-p.Rho) = nr := by rw [IntKind.wrap_i64]; have := HQ.out; omega
  clear hc0
  cases b1
  cases k2
  cases k3
  cases k4
  cases k5
  cases k6
  cases k7
  cases k8
  cases j1
  cases j2
  cases j3
  cases j4
  rotate_left
  iterate 12
    focus
      go_wp2_with (first
        | (go_at_call 6; (with_reducible refine (alive_calls _).mono ?_); rintro e w' ⟨rfl, hb⟩; have H1 := H.call hb; clear hb; clear H; have H := H1; clear H1)
        | (go_at_call 7; (with_reducible refine (KC.out _).mono ?_); rintro e w' ⟨rfl, hb⟩; have H1 := H.call hb; clear hb; clear H; have H := H1; clear H1)
        | (go_at_call 8; have HT := rowI_one (y := ⟨⟨0, l, false, 0, false, []⟩, Al, cl, none, 0⟩) H (by rw [HEN.out]; exact H.of At.head) HHE.out; (with_reducible refine (KG.out _ _ HT).mono ?_); clear HT; rintro e w' ⟨rfl, hb⟩; have H1 := H.call hb; clear hb; clear H; have H := H1; clear H1)
        | ((with_reducible refine gate_dst (N := 5) rfl ?_); refine fr_box H rfl rfl rfl ?_; intro g5 w5 H1; clear H; have H := H1; clear H1)
        | ((with_reducible refine gate_dst (N := 6) rfl ?_); refine fr_box H rfl rfl rfl ?_; intro g6 w6 H1; clear H; have H := H1; clear H1)
        | ((with_reducible refine gate_dst (N := 16) rfl ?_); refine fr_sub H (n := 12) rfl rfl rfl (by repeat (first | exact At.head | apply At.tail)) Try.underlying23 rfl (by kernel_rfl) (by simp only [List.toList_toArray, List.drop_succ_cons, List.drop_zero, List.take_succ_cons, List.take_zero]; rfl) (by rfl) ?_)
        | ((with_reducible refine gate_dst (N := 20) rfl ?_); (try (refine gate_guard (by rfl) ?_; dsimp only)); refine fr_sub H (n := 11) rfl rfl rfl (by repeat (first | exact At.head | apply At.tail)) Try.underlying30 rfl (by kernel_rfl) (by simp only [List.toList_toArray, List.drop_succ_cons, List.drop_zero, List.take_succ_cons, List.take_zero]; rfl) (by rfl) ?_)
        | ((with_reducible refine gate_dst (N := 23) rfl ?_); (try (refine gate_guard (by rfl) ?_; dsimp only)); refine fr_rowv H (N := 23) rfl rfl (fun K hK => by go_simp; exact hK.out) ?_; intro x23 w23 H1; clear H; have H := H1; clear H1)
        | ((with_reducible refine gate_dst (N := 38) rfl ?_); (try (refine gate_guard (by rfl) ?_; dsimp only)); refine fr_get H rfl rfl rfl (by repeat (first | exact At.head | apply At.tail)) Try.underlying3 rfl (by simp only [List.getElem?_toArray, List.getElem?_cons_succ, List.getElem?_cons_zero]; rfl) ?_)
        | ((with_reducible refine gate_dst (N := 45) rfl ?_); (try (refine gate_guard (by rfl) ?_; dsimp only)); refine fr_get H rfl rfl rfl (by repeat (first | exact At.head | apply At.tail)) Try.underlying3 rfl (by simp only [List.getElem?_toArray, List.getElem?_cons_succ, List.getElem?_cons_zero]; rfl) ?_)
        | ((with_reducible refine gate_dst (N := 51) rfl ?_); (try (refine gate_guard (by rfl) ?_; dsimp only)); refine fr_get H rfl rfl rfl (by repeat (first | exact At.head | apply At.tail)) Try.underlying3 rfl (by simp only [List.getElem?_toArray, List.getElem?_cons_succ, List.getElem?_cons_zero]; rfl) ?_)
        | ((with_reducible refine gate_dst (N := 57) rfl ?_); (try (refine gate_guard (by rfl) ?_; dsimp only)); refine fr_get H rfl rfl rfl (by repeat (first | exact At.head | apply At.tail)) Try.underlying3 rfl (by simp only [List.getElem?_toArray, List.getElem?_cons_succ, List.getElem?_cons_zero]; rfl) ?_)
        | ((with_reducible refine gate_dst (N := 62) rfl ?_); (try (refine gate_guard (by rfl) ?_; dsimp only)); refine fr_get H rfl rfl rfl (by repeat (first | exact At.head | apply At.tail)) Try.underlying3 rfl (by simp only [List.getElem?_toArray, List.getElem?_cons_succ, List.getElem?_cons_zero]; rfl) ?_)
        | ((with_reducible refine gate_dst (N := 67) rfl ?_); refine fr_get H rfl rfl rfl (by repeat (first | exact At.head | apply At.tail)) Try.underlying3 rfl (by simp only [List.getElem?_toArray, List.getElem?_cons_succ, List.getElem?_cons_zero]; rfl) ?_)
        | ((with_reducible refine gate_dst (N := 73) rfl ?_); (try (refine gate_guard (by rfl) ?_; dsimp only)); refine fr_get H rfl rfl rfl (by repeat (first | exact At.head | apply At.tail)) Try.underlying3 rfl (by simp only [List.getElem?_toArray, List.getElem?_cons_succ, List.getElem?_cons_zero]; rfl) ?_)
        | ((with_reducible refine gate_dst (N := 80) rfl ?_); (try (refine gate_guard (by rfl) ?_; dsimp only)); refine fr_get H rfl rfl rfl (by repeat (first | exact At.head | apply At.tail)) Try.underlying3 rfl (by simp only [List.getElem?_toArray, List.getElem?_cons_succ, List.getElem?_cons_zero]; rfl) ?_)
        | ((with_reducible refine gate_dst (N := 86) rfl ?_); (try (refine gate_guard (by rfl) ?_; dsimp only)); refine fr_get H rfl rfl rfl (by repeat (first | exact At.head | apply At.tail)) Try.underlying3 rfl (by simp only [List.getElem?_toArray, List.getElem?_cons_succ, List.getElem?_cons_zero]; rfl) ?_)
        | fail)
      go_ret
      exact ⟨rfl, H.below⟩
  have KN' := Lib.hid (fun W => KN.out W rfl)
  have KB' := Lib.hid (fun W g A c => KB.out W g A c rfl)
  clear KN KB
  have hc0 := HCB.out rfl
  obtain ⟨r1, r2, r3, r4, r5, r6, r7, r8, r9, r10, r11, r12, r13, r14, r15, r16⟩ := HWF.out rfl rfl rfl rfl rfl rfl rfl rfl rfl rfl rfl rfl
  subst r4 r5
  obtain ⟨tn, htn⟩ : ∃ t, now + p.Be = t := ⟨_, rfl⟩
  obtain ⟨tk, htk⟩ : ∃ t, p.Be + err = t := ⟨_, rfl⟩
  obtain ⟨q2, hq2⟩ : ∃ t, 2 * p.Rho = t := ⟨_, rfl⟩
  obtain ⟨d2, hd2⟩ : ∃ t, shi - slo = t := ⟨_, rfl⟩
  obtain ⟨d3, hd3⟩ : ∃ t, d2 + q2 = t := ⟨_, rfl⟩
  obtain ⟨hh, hhh⟩ : ∃ t, sheld + 1 = t := ⟨_, rfl⟩
  have hx1 : IntKind.i64.wrap (now + p.Be) = tn := by rw [IntKind.wrap_i64]; omega
  have hx2 : IntKind.i64.wrap (p.Be + err) = tk := by rw [IntKind.wrap_i64]; omega
  have hx3 : IntKind.i64.wrap (2 * p.Rho) = q2 := by rw [IntKind.wrap_i64]; omega
  have hx4 : IntKind.i64.wrap (shi - slo) = d2 := by rw [IntKind.wrap_i64]; omega
  have hx5 : IntKind.i64.wrap (uhi - ulo) = d3 := by rw [IntKind.wrap_i64]; omega
  have hx6 : IntKind.i64.wrap (d2 + q2) = d3 := by rw [IntKind.wrap_i64]; omega
  have hx7 : IntKind.i64.wrap (sheld + 1) = hh := by rw [IntKind.wrap_i64]; omega
  have hx8 : decide (ulo ≤ tn) = true := decide_eq_true (by omega)
  have hx9 : decide (tn ≤ uhi) = true := decide_eq_true (by omega)
  rw [htk] at KB'
  rw [hhh] at KB'
  clear htn htk hq2 hd2 hd3 hhh r1 r2 r3 r6 r7 r8 r9 r10 r11 r12 r13 r14 r15 r16 hc0 HWF HCB
  go_upto_region 11 with (first
    | (go_at_call 6; (with_reducible refine (alive_calls _).mono ?_); rintro e w' ⟨rfl, hb⟩; have H1 := H.call hb; clear hb; clear H; have H := H1; clear H1)
    | (go_at_call 7; (with_reducible refine (KC.out _).mono ?_); rintro e w' ⟨rfl, hb⟩; have H1 := H.call hb; clear hb; clear H; have H := H1; clear H1)
    | (go_at_call 8; have HT := rowI_one (y := ⟨⟨0, l, false, 0, false, []⟩, Al, cl, none, 0⟩) H (by rw [HEN.out]; exact H.of At.head) HHE.out; (with_reducible refine (KG.out _ _ HT).mono ?_); clear HT; rintro e w' ⟨rfl, hb⟩; have H1 := H.call hb; clear hb; clear H; have H := H1; clear H1)
    | ((with_reducible refine gate_dst (N := 5) rfl ?_); refine fr_box H rfl rfl rfl ?_; intro g5 w5 H1; clear H; have H := H1; clear H1)
    | ((with_reducible refine gate_dst (N := 6) rfl ?_); refine fr_box H rfl rfl rfl ?_; intro g6 w6 H1; clear H; have H := H1; clear H1)
    | ((with_reducible refine gate_dst (N := 16) rfl ?_); refine fr_sub H (n := 12) rfl rfl rfl (by repeat (first | exact At.head | apply At.tail)) Try.underlying23 rfl (by kernel_rfl) (by simp only [List.toList_toArray, List.drop_succ_cons, List.drop_zero, List.take_succ_cons, List.take_zero]; rfl) (by rfl) ?_)
    | ((with_reducible refine gate_dst (N := 20) rfl ?_); (try (refine gate_guard (by rfl) ?_; dsimp only)); refine fr_sub H (n := 11) rfl rfl rfl (by repeat (first | exact At.head | apply At.tail)) Try.underlying30 rfl (by kernel_rfl) (by simp only [List.toList_toArray, List.drop_succ_cons, List.drop_zero, List.take_succ_cons, List.take_zero]; rfl) (by rfl) ?_)
    | ((with_reducible refine gate_dst (N := 23) rfl ?_); (try (refine gate_guard (by rfl) ?_; dsimp only)); refine fr_rowv H (N := 23) rfl rfl (fun K hK => by go_simp; exact hK.out) ?_; intro x23 w23 H1; clear H; have H := H1; clear H1)
    | ((with_reducible refine gate_dst (N := 38) rfl ?_); (try (refine gate_guard (by rfl) ?_; dsimp only)); refine fr_get H rfl rfl rfl (by repeat (first | exact At.head | apply At.tail)) Try.underlying3 rfl (by simp only [List.getElem?_toArray, List.getElem?_cons_succ, List.getElem?_cons_zero]; rfl) ?_)
    | ((with_reducible refine gate_dst (N := 45) rfl ?_); (try (refine gate_guard (by rfl) ?_; dsimp only)); refine fr_get H rfl rfl rfl (by repeat (first | exact At.head | apply At.tail)) Try.underlying3 rfl (by simp only [List.getElem?_toArray, List.getElem?_cons_succ, List.getElem?_cons_zero]; rfl) ?_)
    | ((with_reducible refine gate_dst (N := 51) rfl ?_); (try (refine gate_guard (by rfl) ?_; dsimp only)); refine fr_get H rfl rfl rfl (by repeat (first | exact At.head | apply At.tail)) Try.underlying3 rfl (by simp only [List.getElem?_toArray, List.getElem?_cons_succ, List.getElem?_cons_zero]; rfl) ?_)
    | ((with_reducible refine gate_dst (N := 57) rfl ?_); (try (refine gate_guard (by rfl) ?_; dsimp only)); refine fr_get H rfl rfl rfl (by repeat (first | exact At.head | apply At.tail)) Try.underlying3 rfl (by simp only [List.getElem?_toArray, List.getElem?_cons_succ, List.getElem?_cons_zero]; rfl) ?_)
    | ((with_reducible refine gate_dst (N := 62) rfl ?_); (try (refine gate_guard (by rfl) ?_; dsimp only)); refine fr_get H rfl rfl rfl (by repeat (first | exact At.head | apply At.tail)) Try.underlying3 rfl (by simp only [List.getElem?_toArray, List.getElem?_cons_succ, List.getElem?_cons_zero]; rfl) ?_)
    | ((with_reducible refine gate_dst (N := 67) rfl ?_); refine fr_get H rfl rfl rfl (by repeat (first | exact At.head | apply At.tail)) Try.underlying3 rfl (by simp only [List.getElem?_toArray, List.getElem?_cons_succ, List.getElem?_cons_zero]; rfl) ?_)
    | ((with_reducible refine gate_dst (N := 73) rfl ?_); (try (refine gate_guard (by rfl) ?_; dsimp only)); refine fr_get H rfl rfl rfl (by repeat (first | exact At.head | apply At.tail)) Try.underlying3 rfl (by simp only [List.getElem?_toArray, List.getElem?_cons_succ, List.getElem?_cons_zero]; rfl) ?_)
    | ((with_reducible refine gate_dst (N := 80) rfl ?_); (try (refine gate_guard (by rfl) ?_; dsimp only)); refine fr_get H rfl rfl rfl (by repeat (first | exact At.head | apply At.tail)) Try.underlying3 rfl (by simp only [List.getElem?_toArray, List.getElem?_cons_succ, List.getElem?_cons_zero]; rfl) ?_)
    | ((with_reducible refine gate_dst (N := 86) rfl ?_); (try (refine gate_guard (by rfl) ?_; dsimp only)); refine fr_get H rfl rfl rfl (by repeat (first | exact At.head | apply At.tail)) Try.underlying3 rfl (by simp only [List.getElem?_toArray, List.getElem?_cons_succ, List.getElem?_cons_zero]; rfl) ?_)
    | ((with_reducible refine gate_dst (N := 89) rfl ?_); refine fr_sub H (n := 12) rfl rfl rfl (by repeat (first | exact At.head | apply At.tail)) Try.underlying23 rfl (by kernel_rfl) (by simp only [List.toList_toArray, List.drop_succ_cons, List.drop_zero, List.take_succ_cons, List.take_zero]; rfl) (by rfl) ?_)
    | ((with_reducible refine gate_dst (N := 90) rfl ?_); refine fr_sub H (n := 11) rfl rfl rfl (by repeat (first | exact At.head | apply At.tail)) Try.underlying30 rfl (by kernel_rfl) (by simp only [List.toList_toArray, List.drop_succ_cons, List.drop_zero, List.take_succ_cons, List.take_zero]; rfl) (by rfl) ?_)
    | ((with_reducible refine gate_dst (N := 94) rfl ?_); refine fr_get H rfl rfl rfl (by repeat (first | exact At.head | apply At.tail)) Try.underlying3 rfl (by simp only [List.getElem?_toArray, List.getElem?_cons_succ, List.getElem?_cons_zero]; rfl) ?_)
    | ((with_reducible refine gate_dst (N := 102) rfl ?_); refine fr_get H rfl rfl rfl (by repeat (first | exact At.head | apply At.tail)) Try.underlying3 rfl (by simp only [List.getElem?_toArray, List.getElem?_cons_succ, List.getElem?_cons_zero]; rfl) ?_)
    | ((with_reducible refine gate_dst (N := 109) rfl ?_); refine fr_sub H (n := 2) rfl rfl rfl (by repeat (first | exact At.head | apply At.tail)) Try.underlying25 rfl (by kernel_rfl) (by simp only [List.toList_toArray, List.drop_succ_cons, List.drop_zero, List.take_succ_cons, List.take_zero]; rfl) (by rfl) ?_)
    | ((with_reducible refine gate_dst (N := 13) rfl ?_); refine fr_new H (N := 13) rfl rfl (cs := #[.int .i64 0, .int .i64 0]) (t := 25) ?hr ?_; (case hr => first | (go_simp; done) | (go_simp; rfl)); intro g13 w13 H1; clear H; have H := H1; clear H1)
    | ((with_reducible refine gate_store (t := 25) (p := 13) rfl ?_); refine fr_put H rfl rfl rfl rfl rfl (by repeat (first | exact At.head | apply At.tail)) (by rfl) (by kernel_rfl) (by simp [Value.oneCell']) ?_; intro w13_ H1; clear H; have H := H1; clear H1)
    | (go_at_call 9; (with_reducible refine (KN'.out _ H.now).mono ?_); rintro e w' ⟨g, A1, c1, rfl, hg, hb, ho, hne, hB⟩; have H1 := Fr.freshRow H hg hb hB ho hne; clear hg hb hB ho hne H; have H := H1; clear H1)
    | (go_at_call 10; have HT : Tr (fun k => k = g) _ _ := Fr.trAt H (by repeat (first | exact At.head | apply At.tail)); (with_reducible refine (KB'.out _ g A1 c1 (H.of (by repeat (first | exact At.head | apply At.tail))) HT).mono ?_); clear HT; rintro e w' ⟨v, A3, c3, rfl, hb, hc⟩; have H1 := H.turn (by repeat (first | exact At.head | apply At.tail)) hb hc; clear hb hc H; have H := H1; clear H1)
    | fail)
  refine ko_region0 H (by kernel_rfl) (by kernel_rfl) (fun HR => ?_)
  repeat (first
    | ((with_reducible refine kg_dst (N := 5) rfl ?_); refine ko_var rfl (by rfl) (fun W K hK => by go_simp; exact hK.out) ?_; intro g5; (try simp only [Act.put, List.setIfInBounds_toArray, List.set_cons_zero, List.set_cons_succ, Nat.reduceAdd]))
    | ((with_reducible refine kg_dst (N := 6) rfl ?_); refine ko_var rfl (by rfl) (fun W K hK => by go_simp; exact hK.out) ?_; intro g6; (try simp only [Act.put, List.setIfInBounds_toArray, List.set_cons_zero, List.set_cons_succ, Nat.reduceAdd]))
    | ((with_reducible refine kg_load (ty := 23) rfl ?_); refine ko_sub HR (n := 12) rfl (by rfl) (by rfl) (by repeat (first | exact At.head | apply At.tail)) Try.underlying23 rfl (by kernel_rfl) (by simp only [List.toList_toArray, List.drop_succ_cons, List.drop_zero, List.take_succ_cons, List.take_zero]; rfl) (by rfl) ?_; (try simp only [Act.put, List.setIfInBounds_toArray, List.set_cons_zero, List.set_cons_succ, Nat.reduceAdd]))
    | ((with_reducible refine kg_load (ty := 30) rfl ?_); refine ko_sub HR (n := 11) rfl (by rfl) (by rfl) (by repeat (first | exact At.head | apply At.tail)) Try.underlying30 rfl (by kernel_rfl) (by simp only [List.toList_toArray, List.drop_succ_cons, List.drop_zero, List.take_succ_cons, List.take_zero]; rfl) (by rfl) ?_; (try simp only [Act.put, List.setIfInBounds_toArray, List.set_cons_zero, List.set_cons_succ, Nat.reduceAdd]))
    | ((with_reducible refine kg_dst (N := 23) rfl ?_); refine ko_row rfl (by rfl) (fun W K hK => by go_simp; exact hK.out) ?_; intro x23; (try simp only [Act.put, List.setIfInBounds_toArray, List.set_cons_zero, List.set_cons_succ, Nat.reduceAdd]))
    | ((with_reducible refine kg_load (ty := 3) rfl ?_); refine ko_get HR rfl (by rfl) (by rfl) (by repeat (first | exact At.head | apply At.tail)) Try.underlying3 rfl (by simp only [List.getElem?_toArray, List.getElem?_cons_succ, List.getElem?_cons_zero]; rfl) ?_; (try simp only [Act.put, List.setIfInBounds_toArray, List.set_cons_zero, List.set_cons_succ, Nat.reduceAdd]))
    | ((with_reducible refine kg_load (ty := 25) rfl ?_); refine ko_sub HR (n := 2) rfl (by rfl) (by rfl) (by repeat (first | exact At.head | apply At.tail)) Try.underlying25 rfl (by kernel_rfl) (by simp only [List.toList_toArray, List.drop_succ_cons, List.drop_zero, List.take_succ_cons, List.take_zero]; rfl) (by rfl) ?_; (try simp only [Act.put, List.setIfInBounds_toArray, List.set_cons_zero, List.set_cons_succ, Nat.reduceAdd]))
    | ((with_reducible refine kg_dst (N := 13) rfl ?_); refine ko_var rfl (by rfl) (fun W K hK => by go_simp; exact hK.out) ?_; intro g13; (try simp only [Act.put, List.setIfInBounds_toArray, List.set_cons_zero, List.set_cons_succ, Nat.reduceAdd]))
    | ((with_reducible refine kg_store (ty := 25) rfl ?_); refine ko_put (u := .agg (List.toArray _)) rfl rfl (by rfl) (by rfl) (by rfl) (by repeat (first | exact VarAt.head | apply VarAt.tail)) (by kernel_rfl) (Nat.le_of_ble_eq_true rfl) (by simp only [Value.cells, List.take_succ_cons, List.take_zero, List.drop_succ_cons, List.drop_zero, List.cons_append, List.nil_append, List.length_cons, List.length_nil, Nat.reduceAdd, List.append_nil, List.drop_nil, List.take_nil]; rfl) (by repeat (first | exact VarAt.head | apply VarAt.tail)) (by simp [apartR, Value.cells]) (by kernel_rfl) (by simp [Value.cells, Value.oneCell']) ?_; (try simp only [Value.cells, List.length_cons, List.length_nil, Nat.reduceAdd]))
    | (refine ko_pure rfl (by rfl) (fun W K hK => by go_simp; exact hK.out) ?_; (try simp only [Act.put, List.setIfInBounds_toArray, List.set_cons_zero, List.set_cons_succ, Nat.reduceAdd]))
    | (refine ko_off (by rfl) ?_; (try simp only [Act.put, List.setIfInBounds_toArray, List.set_cons_zero, List.set_cons_succ, Nat.reduceAdd])))
  refine ko_end ?_
  intro w1 H1
  clear HR H
  have H := H1
  clear H1
  (try simp only [List.map_cons, List.map_nil, cv, List.cons_append, List.nil_append] at H)
  go_wp2
  go_ret
  exact ⟨rfl, H.below⟩
end Go.Proofs.Ytbmfgcekglgliaa.G

namespace Go.Proofs.Ytbmfgcekglgliaa.G
open Go.RowKit Go.Proofs.YtbmfgcekglgliaaW.PrintWords Go.Proofs.YtbmfgcekglgliaaW.PrintLast Go.Proofs.YtbmfgcekglgliaaW.PrintMore Go.Proofs.YtbmfgcekglgliaaPl Go.Proofs.YtbmfgcekglgliaaEm Go.Proofs.YtbmfgcekglgliaaKr Go.Proofs.YtbmfgcekglgliaaRz Go.Proofs.Ytbmfgcekglgliaa.X
set_option linter.unusedVariables false
theorem RowH.tr {w : World} {A : Option Addr} {l : List Hd} (h : RowH w A l) : Tr (fun _ => False) w (fun W => RowH W A l) := by
  intro W' hW k hk
  obtain ⟨ad, e, hc⟩ := h k hk
  refine ⟨ad, e, fun j u hu => ?_⟩
  have h5 := hc j u hu
  have h6 := World.block_lt_of_cell? w _ h5
  have hb := hW _ (fun q => q) h6
  rw [show W'.cell? ((ad.add (k * 15)).add j) = w.cell? ((ad.add (k * 15)).add j) by simp [World.cell?, hb]]
  exact h5
theorem clepsydralaw22_GateWaits.calls (a0_0 a0_1 a0_2 a0_3 a0_4 a0_5 a0_6 a0_7 a0_8 a0_9 a0_10 a0_11 : Int) (a1_0 a1_1 a1_2 : Int) (a1_3 : Bool) (a1_4 a1_5 : Int) (a1_6 : Bool) (A1_7 : Option Addr) (c1_7 : Nat) (l1_7 : List Lp) (a1_8 a1_9 a1_10 a2 : Int) (A3 : Option Addr) (c3 : Nat) (l3 : List Hrd) (a4 : Int) (w : World) (hr1 : Kd.C k82 w A1_7 l1_7.length l1_7) (hc1 : l1_7.length ≤ c1_7) (hr3 : Kd.C k45 w A3 l3.length l3) (hc3 : l3.length ≤ c3) :
    Calls Try.prog 4 #[.agg #[.int .i64 a0_0, .int .i64 a0_1, .int .i64 a0_2, .int .i64 a0_3, .int .i64 a0_4, .int .i64 a0_5, .int .i64 a0_6, .int .i64 a0_7, .int .i64 a0_8, .int .i64 a0_9, .int .i64 a0_10, .int .i64 a0_11], .agg #[.int .i64 a1_0, .int .i64 a1_1, .int .i64 a1_2, .bool a1_3, .int .i64 a1_4, .int .i64 a1_5, .bool a1_6, .slice A1_7 l1_7.length c1_7, .int .i64 a1_8, .int .i64 a1_9, .int .i64 a1_10], .int .i64 a2, .slice A3 l3.length c3, .int .i64 a4] w fun e w' => e = .returned (.bool true) ∧ Below w.heap.size w w' := by
  obtain ⟨hs, hlen, _, hrow⟩ := rowH_in hr3
  have := Waits_calls ⟨a0_0, a0_1, a0_2, a0_3, a0_4, a0_5, a0_6, a0_7, a0_8, a0_9, a0_10, a0_11⟩ ⟨a1_0, a1_1, a1_2, a1_3, a1_4, a1_5, a1_6, l1_7, a1_8, a1_9, a1_10⟩ A1_7 c1_7 a2 a4 hs A3 c3 w (Tr.and (RowH.tr hrow) (Go.Proofs.YtbmfgcekglgliaaEv.Tr.of_C hr1 k82_heap)) (by rw [hlen]; exact hr3.2.1)
  rw [hlen] at this
  exact this
end Go.Proofs.Ytbmfgcekglgliaa.G
