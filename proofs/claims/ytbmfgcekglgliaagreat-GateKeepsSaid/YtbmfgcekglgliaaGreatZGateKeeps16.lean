/- Texts GateKeeps, GateKeepsC, in one file, without what is not needed here. -/
import Derived.Test.YtbmfgcekglgliaaGreatZGateKeeps15
namespace Go.Proofs.YtbmfgcekglgliaaGreat.G
open Go.RowKit Go.Proofs.YtbmfgcekglgliaaGreatW.PrintWords Go.Proofs.YtbmfgcekglgliaaGreatW.PrintLast Go.Proofs.YtbmfgcekglgliaaGreatW.PrintMore Go.Proofs.YtbmfgcekglgliaaGreatPl Go.Proofs.YtbmfgcekglgliaaGreatEm Go.Proofs.YtbmfgcekglgliaaGreatKr Go.Proofs.YtbmfgcekglgliaaGreatRz Go.Proofs.YtbmfgcekglgliaaGreat.X
set_option linter.unusedVariables false
set_option linter.unusedSimpArgs false
def pKe (As : Option Addr) (ts : List Lp) (Ah : Option Addr) (l : List Hd) (Ax : Option Addr) (tt : List Lp) (W : World) : Prop := (RowH W Ah l ∧ Kd.C k58 W Ax tt.length tt ∧ Kd.C k58 W As ts.length ts) ∧ ∀ q, q ∈ l → TabH W q
def SlotX (e : TypeId) (sz : Nat) (A : Option Addr) (n : Nat) (E : List (Nat × Obj)) : Prop := (n = 0 ∧ E = []) ∨ ∃ g cur, A = some ⟨g, 0, none⟩ ∧ E = [(g, .cells cur e (0, 0))] ∧ n * sz ≤ cur.size
theorem slotX {e : TypeId} {sz n c : Nat} {A : Option Addr} {xs : List Value} {E : List (Nat × Obj)} (h : RowX e sz A n c xs E) : SlotX e sz A n E := by
  rcases h.2 with ⟨-, h1, -, h2⟩ | ⟨g, cur, h1, h2, h3, h4, h5, h6⟩
  · exact .inl ⟨h1, h2⟩
  · exact .inr ⟨g, cur, h1, h2, by rw [h5]; exact Nat.mul_le_mul_right _ h3⟩
theorem add_zero' (a : Addr) : a.add 0 = a := by
  unfold Addr.add
  split
  · rfl
  · rename_i h; exact absurd rfl h
set_option maxRecDepth 100000 in
set_option maxHeartbeats 40000000 in
theorem Keeps_calls (p : Par) (s : St) (As : Option Addr) (cs : Nat) (x : Inp) (Ah : Option Addr) (ch : Nat) (Ax : Option Addr) (ct : Nat) (w : World) (hr : Tr (fun _ => False) w (pKe As s.tab Ah x.heard Ax x.tab)) (hh : x.heard.length ≤ 9223372036854775807) :
    Calls Tryz.prog 4 #[.agg #[.int .i64 p.N, .int .i64 p.F, .int .i64 p.D, .int .i64 p.Be, .int .i64 p.Rho, .int .i64 p.De, .int .i64 p.Ji, .int .i64 p.Eps, .int .i64 p.Mu, .int .i64 p.Ho, .int .i64 p.Pu, .int .i64 p.Se], .agg #[.int .i64 s.lo, .int .i64 s.hi, .int .i64 s.time, .bool s.set, .int .i64 s.held, .int .i64 s.hops, .bool s.good, .slice As s.tab.length cs, .int .i64 s.st, .int .i64 s.sn, .int .i64 s.life], .agg #[.int .i64 x.ticks, .slice Ah x.heard.length ch, .bool x.ref, .int .i64 x.reading, .bool x.given, .slice Ax x.tab.length ct]] w fun e w' => e = .returned (.bool true) ∧ Below w.heap.size w w' := by
  have H := Fr.start0 (M := fun _ => False) (A := fun _ => False) (w := w) (p := pKe As s.tab Ah x.heard Ax x.tab) (fun _ h => h.elim) hr
  obtain ⟨i0, hi0, hz0, hz1, hz2⟩ := info_parts infoL
  obtain ⟨j0, hj0, hw0, hw1, hw2⟩ := info_parts infoH
  obtain ⟨b1, hb1⟩ : ∃ b, greatP s.tab.length [⟨x, Ah, ch, Ax, ct⟩] = b := ⟨_, rfl⟩
  have KG : Hid (∀ W y, Tr (fun _ => False) W (fun W => RowI W (some ⟨y, 0, none⟩) [⟨x, Ah, ch, Ax, ct⟩]) → Calls Tryz.prog 6 #[.agg #[.int .i64 s.lo, .int .i64 s.hi, .int .i64 s.time, .bool s.set, .int .i64 s.held, .int .i64 s.hops, .bool s.good, .slice As s.tab.length cs, .int .i64 s.st, .int .i64 s.sn, .int .i64 s.life], .slice (some ⟨y, 0, none⟩) 1 1] W fun e w' => e = .returned (.bool b1) ∧ Below W.heap.size W w') := Lib.hid (fun W y h => by
    have := great_calls s.lo s.hi s.time s.set s.held s.hops s.good As s.tab.length cs s.st s.sn s.life (some ⟨y, 0, none⟩) 1 [⟨x, Ah, ch, Ax, ct⟩] W h (by simp) (fun y hy => by rw [List.mem_singleton.1 hy]; exact hh)
    rw [hb1] at this
    exact this)
  obtain ⟨z, hz⟩ : ∃ z, saneS p.D s = z := ⟨_, rfl⟩
  obtain ⟨u, hu⟩ : ∃ u, beatS p 0 z x = u := ⟨_, rfl⟩
  have HLA : Hid (b1 = false → (x.heard.length ≤ 40 ∧ x.tab.length ≤ 128 ∧ s.tab.length ≤ 128) ∧ z.tab.length ≤ 128 ∧ u.tab.length ≤ 128) := Lib.hid (fun h => by
    rw [h] at hb1
    have := great_no hb1
    have h2 := saneS_tab p.D s
    have h3 := beatS_tab p 0 z x
    rw [hz] at h2
    rw [hu] at h3
    dsimp only at this
    omega)
  have KN : Hid (∀ W, b1 = false → Kd.C k58 W As s.tab.length s.tab → Calls Tryz.prog 7 #[.agg #[.int .i64 p.N, .int .i64 p.F, .int .i64 p.D, .int .i64 p.Be, .int .i64 p.Rho, .int .i64 p.De, .int .i64 p.Ji, .int .i64 p.Eps, .int .i64 p.Mu, .int .i64 p.Ho, .int .i64 p.Pu, .int .i64 p.Se], .int .i64 0, .agg #[.int .i64 s.lo, .int .i64 s.hi, .int .i64 s.time, .bool s.set, .int .i64 s.held, .int .i64 s.hops, .bool s.good, .slice As s.tab.length cs, .int .i64 s.st, .int .i64 s.sn, .int .i64 s.life]] W fun e w' => ∃ g A' c', e = .returned (.pointer (some ⟨g, 0, none⟩)) ∧ W.heap.size ≤ g ∧ w'.heap[g]? = some (.cells #[.int .i64 p.N, .int .i64 p.F, .int .i64 p.D, .int .i64 p.Be, .int .i64 p.Rho, .int .i64 p.De, .int .i64 p.Ji, .int .i64 p.Eps, .int .i64 p.Mu, .int .i64 p.Ho, .int .i64 p.Pu, .int .i64 p.Se, .int .i64 z.lo, .int .i64 z.hi, .int .i64 z.time, .bool z.set, .int .i64 z.held, .int .i64 z.hops, .bool z.good, .slice A' z.tab.length c', .int .i64 z.st, .int .i64 z.sn, .int .i64 z.life, .int .i64 0] 41 (0, 0)) ∧ w'.ownsRow W.heap.size 58 2 (.slice A' z.tab.length c') z.tab.length (flL z.tab) ∧ (∀ ad, A' = some ad → ad.block ≠ g) ∧ Below W.heap.size W w') := Lib.hid (fun W hb h => New_to p 0 s As cs W z hz h (by have := (HLA.out hb).1; omega))
  have KSa : Hid (∀ W, b1 = false → Kd.C k58 W As s.tab.length s.tab → Calls Tryz.prog 8 #[.agg #[.int .i64 p.N, .int .i64 p.F, .int .i64 p.D, .int .i64 p.Be, .int .i64 p.Rho, .int .i64 p.De, .int .i64 p.Ji, .int .i64 p.Eps, .int .i64 p.Mu, .int .i64 p.Ho, .int .i64 p.Pu, .int .i64 p.Se], .agg #[.int .i64 s.lo, .int .i64 s.hi, .int .i64 s.time, .bool s.set, .int .i64 s.held, .int .i64 s.hops, .bool s.good, .slice As s.tab.length cs, .int .i64 s.st, .int .i64 s.sn, .int .i64 s.life]] W fun e w' => ∃ A' c', e = .returned (.agg #[.int .i64 z.lo, .int .i64 z.hi, .int .i64 z.time, .bool z.set, .int .i64 z.held, .int .i64 z.hops, .bool z.good, .slice A' z.tab.length c', .int .i64 z.st, .int .i64 z.sn, .int .i64 z.life]) ∧ w'.ownsRow W.heap.size 58 2 (.slice A' z.tab.length c') z.tab.length (flL z.tab) ∧ Below W.heap.size W w') := Lib.hid (fun W hb h => by
    have := RSane_calls p s As cs W h (by have := (HLA.out hb).1; omega)
    rw [hz] at this
    exact this)
  obtain ⟨rb, hrb⟩ : ∃ b, rdB p x = b := ⟨_, rfl⟩
  obtain ⟨⟨s1, s2⟩, hsn⟩ : ∃ b, snP p x = b := ⟨_, rfl⟩
  obtain ⟨pu, hpu⟩ : ∃ b, pulseS p u = b := ⟨_, rfl⟩
  have KB : Hid (∀ W g A c Ah ch Ax ct, b1 = false → W.heap[g]? = some (.cells #[.int .i64 p.N, .int .i64 p.F, .int .i64 p.D, .int .i64 p.Be, .int .i64 p.Rho, .int .i64 p.De, .int .i64 p.Ji, .int .i64 p.Eps, .int .i64 p.Mu, .int .i64 p.Ho, .int .i64 p.Pu, .int .i64 p.Se, .int .i64 z.lo, .int .i64 z.hi, .int .i64 z.time, .bool z.set, .int .i64 z.held, .int .i64 z.hops, .bool z.good, .slice A z.tab.length c, .int .i64 z.st, .int .i64 z.sn, .int .i64 z.life, .int .i64 0] 41 (0, 0)) → Tr (fun k => k = g) W (pR Ah x.heard Ax x.tab A z.tab) → Calls Tryz.prog 13 #[.pointer (some ⟨g, 0, none⟩), .agg #[.int .i64 x.ticks, .slice Ah x.heard.length ch, .bool x.ref, .int .i64 x.reading, .bool x.given, .slice Ax x.tab.length ct]] W fun e w' => ∃ (A3 : Option Addr) (c3 : Nat) (A4 : Option Addr) (c4 : Nat), e = .returned (.agg #[.int .i64 1, .int .i64 0, .int .i64 u.lo, .int .i64 u.hi, .int .i64 u.held, .int .i64 u.hops, .bool u.good, .bool rb, .int .i64 s1, .int .i64 s2, .int .i64 pu, .int .i64 u.st, .int .i64 u.sn, .slice A4 u.tab.length c4]) ∧ w'.heap[g]? = some (.cells #[.int .i64 p.N, .int .i64 p.F, .int .i64 p.D, .int .i64 p.Be, .int .i64 p.Rho, .int .i64 p.De, .int .i64 p.Ji, .int .i64 p.Eps, .int .i64 p.Mu, .int .i64 p.Ho, .int .i64 p.Pu, .int .i64 p.Se, .int .i64 u.lo, .int .i64 u.hi, .int .i64 u.time, .bool u.set, .int .i64 u.held, .int .i64 u.hops, .bool u.good, .slice A3 u.tab.length c3, .int .i64 u.st, .int .i64 u.sn, .int .i64 u.life, .int .i64 0] 41 (0, 0)) ∧ w'.ownsRow W.heap.size 58 2 (.slice A3 u.tab.length c3) u.tab.length (flL u.tab) ∧ w'.ownsRow W.heap.size 58 2 (.slice A4 u.tab.length c4) u.tab.length (flL u.tab) ∧ (∀ a1 a2, A3 = some a1 → A4 = some a2 → a1.block ≠ a2.block) ∧ Chg (fun k => k = g) W w') := Lib.hid (fun W g A c Ah ch Ax ct hb h1 h2 => by
    have h0 := HLA.out hb
    have := Beat_to p 0 z A c g x Ah ch Ax ct W u hu h1 h2 (by omega) (by omega) (by omega)
    rw [hrb, hsn, hpu] at this
    exact this)
  have KRB : Hid (∀ W A c, b1 = false → Tr (fun _ => False) W (pR Ah x.heard Ax x.tab A z.tab) → Calls Tryz.prog 14 #[.agg #[.int .i64 p.N, .int .i64 p.F, .int .i64 p.D, .int .i64 p.Be, .int .i64 p.Rho, .int .i64 p.De, .int .i64 p.Ji, .int .i64 p.Eps, .int .i64 p.Mu, .int .i64 p.Ho, .int .i64 p.Pu, .int .i64 p.Se], .int .i64 0, .agg #[.int .i64 z.lo, .int .i64 z.hi, .int .i64 z.time, .bool z.set, .int .i64 z.held, .int .i64 z.hops, .bool z.good, .slice A z.tab.length c, .int .i64 z.st, .int .i64 z.sn, .int .i64 z.life], .agg #[.int .i64 x.ticks, .slice Ah x.heard.length ch, .bool x.ref, .int .i64 x.reading, .bool x.given, .slice Ax x.tab.length ct]] W fun e w' => ∃ A5 c5 A6 c6, e = .returned (.tuple #[.agg #[.int .i64 u.lo, .int .i64 u.hi, .int .i64 u.time, .bool u.set, .int .i64 u.held, .int .i64 u.hops, .bool u.good, .slice A5 u.tab.length c5, .int .i64 u.st, .int .i64 u.sn, .int .i64 u.life], .agg #[.int .i64 1, .int .i64 0, .int .i64 u.lo, .int .i64 u.hi, .int .i64 u.held, .int .i64 u.hops, .bool u.good, .bool rb, .int .i64 s1, .int .i64 s2, .int .i64 pu, .int .i64 u.st, .int .i64 u.sn, .slice A6 u.tab.length c6]]) ∧ w'.ownsRow W.heap.size 58 2 (.slice A5 u.tab.length c5) u.tab.length (flL u.tab) ∧ w'.ownsRow W.heap.size 58 2 (.slice A6 u.tab.length c6) u.tab.length (flL u.tab) ∧ Below W.heap.size W w') := Lib.hid (fun W A c hb h2 => by
    have h0 := HLA.out hb
    have := RBeat_to p 0 z A c x Ah ch Ax ct W u hu h2 (by omega) (by omega) (by omega)
    rw [hrb, hsn, hpu] at this
    exact this)
  obtain ⟨ul, hul⟩ : ∃ q, unB (told p.N 0 x.heard) = q := ⟨_, rfl⟩
  obtain ⟨m, hm⟩ : ∃ q, (told p.N 0 x.heard).length = q := ⟨_, rfl⟩
  have HUM : Hid (m ≤ 16) := Lib.hid (by
    have h1 : (unB (told p.N 0 x.heard)).length = m := by rw [← hm]; unfold unB; rw [List.length_map]
    rw [← toldR_told] at h1
    have h2 := toldR_len 0 x.heard (upT p.N)
    rw [h1] at h2
    refine Nat.le_trans h2 ?_
    unfold upT
    split <;> omega)
  have KT : Hid (∀ W A c, b1 = false → Tr (fun _ => False) W (fun W => RowH W A x.heard) → Calls Tryz.prog 10 #[.agg #[.int .i64 p.N, .int .i64 p.F, .int .i64 p.D, .int .i64 p.Be, .int .i64 p.Rho, .int .i64 p.De, .int .i64 p.Ji, .int .i64 p.Eps, .int .i64 p.Mu, .int .i64 p.Ho, .int .i64 p.Pu, .int .i64 p.Se], .int .i64 0, .slice A x.heard.length c] W fun e w' => ∃ A' c', e = .returned (.slice A' m c') ∧ w'.ownsRow W.heap.size 49 15 (.slice A' m c') m (flH ul) ∧ Below W.heap.size W w') := Lib.hid (fun W A c hb h => by
    have h0 := HLA.out hb
    refine (Told_calls p 0 A c x.heard W h (by omega)).mono ?_
    rintro e w' ⟨v, rfl, ho, hb⟩
    rw [hul, hm] at ho
    obtain ⟨A', c', e2⟩ := own_shape ho
    exact ⟨A', c', by rw [e2], by rw [← e2]; exact ho, hb⟩)
  have KSS := Lib.hid (fun W A B c d h1 h2 => RSameS_calls u A B c d W h1 h2)
  have KTb := Lib.hid (fun W A B c d h1 h2 => RTables_calls A B c d x.tab W h1 h2)
  have HFL : Hid ((flL x.tab).length = x.tab.length * 2) := Lib.hid (flL_length _)
  have HFH : Hid ((flH x.heard).length = x.heard.length * 15) := Lib.hid (flH_length _)
  have HCX : Hid (∀ W, pKe As s.tab Ah x.heard Ax x.tab W → ∀ ad, Ax = some ad → ∀ j u, (flL x.tab)[j]? = some u → W.cell? (ad.add j) = some u) := Lib.hid (fun W h ad e => by
    subst e
    exact cellsL h.1.2.1)
  have HCH : Hid (∀ W, pKe As s.tab Ah x.heard Ax x.tab W → ∀ ad, Ah = some ad → ∀ j u, (flH x.heard)[j]? = some u → W.cell? (ad.add j) = some u) := Lib.hid (fun W h ad e => by
    subst e
    exact cellsH h.1.1)
  have HNX : Hid (Ax = none → x.tab.length = 0) := Lib.hid (fun e => by
    rcases Nat.eq_zero_or_pos x.tab.length with h | h
    · exact h
    · obtain ⟨ad, e2, _⟩ := leap_row H.now.1.2.1 (Below.refl _ _) 0 h
      rw [e] at e2
      cases e2)
  have HNH : Hid (Ah = none → x.heard.length = 0) := Lib.hid (fun e => by
    rcases Nat.eq_zero_or_pos x.heard.length with h | h
    · exact h
    · obtain ⟨ad, e2, _⟩ := H.now.1.1 0 h
      rw [e] at e2
      cases e2)
  have HHE : Hid (∀ W, pKe As s.tab Ah x.heard Ax x.tab W → RowH W Ah x.heard) := Lib.hid (fun W h => h.1.1)
  obtain ⟨slo, shi, stime, sset, sheld, shops, sgood, stab, sst, ssn, slife⟩ := s
  obtain ⟨ticks, heard, ref, reading, given, ttab⟩ := x
  dsimp only at KG KN KSa KB KRB KT KTb HLA HFL HFH HCX HCH HNX HNH HHE H hr ⊢
  obtain ⟨ns, hns⟩ : ∃ n, stab.length = n := ⟨_, rfl⟩
  obtain ⟨nh, hnh⟩ : ∃ n, heard.length = n := ⟨_, rfl⟩
  obtain ⟨nt, hnt⟩ : ∃ n, ttab.length = n := ⟨_, rfl⟩
  obtain ⟨nu, hnu⟩ : ∃ n, u.tab.length = n := ⟨_, rfl⟩
  have HNS := Lib.hid hns
  have HNN := Lib.hid (And.intro hnh (And.intro hnt hnu))
  have HEN : Hid (encI ⟨⟨ticks, heard, ref, reading, given, ttab⟩, Ah, ch, Ax, ct⟩ = [.int .i64 ticks, .slice Ah nh ch, .bool ref, .int .i64 reading, .bool given, .slice Ax nt ct]) := Lib.hid (by unfold encI; dsimp only; rw [hnh, hnt])
  have HKS : Hid (∀ W, pKe As stab Ah heard Ax ttab W → Kd.C k58 W As ns stab) := Lib.hid (fun W h => by have := h.1.2.2; rw [hns] at this; exact this)
  have HO1 : Hid (∀ (W : World) (b : Nat) A c, W.ownsRow b 58 2 (.slice A nt c) nt (flL ttab) → Kd.C k58 W A nt ttab) := Lib.hid (fun W b A c h => own_C h hnt)
  have HO2 : Hid (∀ (W : World) (b : Nat) A c, W.ownsRow b 58 2 (.slice A nu c) nu (flL u.tab) → Kd.C k58 W A nu u.tab) := Lib.hid (fun W b A c h => own_C h hnu)
  have HKX : Hid (∀ W, pKe As stab Ah heard Ax ttab W → Kd.C k58 W Ax nt ttab) := Lib.hid (fun W h => by have := h.1.2.1; rw [hnt] at this; exact this)
  have HPB : Hid (∀ W (b : Nat) A6 c6 A5 c5 A1 c1, W.ownsRow b 58 2 (.slice A5 nt c5) nt (flL ttab) → W.ownsRow b 49 15 (.slice A6 nh c6) nh (flH heard) → W.ownsRow b 58 2 (.slice A1 z.tab.length c1) z.tab.length (flL z.tab) → pR A6 heard A5 ttab A1 z.tab W) := Lib.hid (fun W b A6 c6 A5 c5 A1 c1 h1 h2 h3 => ⟨rowH_own h2, by have := own_C h1 hnt; rw [hnt]; exact this, own_C' h3⟩)
  rw [hns] at KG KN KSa HLA
  rw [hnh, hnt] at KB KRB HLA
  rw [hnu] at KB KRB KSS HLA
  rw [hnh] at KT HFH HNH
  rw [hnt] at KTb HFL HNX
  rw [hns, hnh, hnt]
  clear hns hnh hnt hnu hr hb1 hh hz hu hrb hsn hpu hul hm
  go_enter Tryz.func4, Tryz.ntmps4
  cases b1
  case true =>
    go_wp2_with (first
      | (go_at_call 5; (with_reducible refine (alive_calls _).mono ?_); rintro e w' ⟨rfl, hb⟩; have H1 := H.call hb; clear hb; replace H := H1; clear H1)
      | (go_at_call 6; have HT := rowI_one (y := ⟨⟨ticks, heard, ref, reading, given, ttab⟩, Ah, ch, Ax, ct⟩) H (by rw [HEN.out]; exact H.of At.head) HHE.out; (with_reducible refine (KG.out _ _ HT).mono ?_); clear HT; rintro e w' ⟨rfl, hb⟩; have H1 := (H.call hb).drop; clear hb; replace H := H1; clear H1)
      | ((with_reducible refine gate_dst (N := 3) rfl ?_); refine fr_box H rfl rfl rfl ?_; intro g3 w3 H1; replace H := H1; clear H1)
      | ((with_reducible refine gate_dst (N := 4) rfl ?_); refine fr_box H rfl rfl rfl ?_; intro g4 w4 H1; replace H := H1; clear H1)
      | ((with_reducible refine gate_dst (N := 5) rfl ?_); refine fr_box H rfl rfl rfl ?_; intro g5 w5 H1; replace H := H1; clear H1)
      | ((with_reducible refine gate_dst (N := 18) rfl ?_); refine fr_sub H (n := 11) rfl rfl rfl (by repeat (first | exact At.head | apply At.tail)) Tryz.underlying30 rfl (by kernel_rfl) (by simp only [List.toList_toArray, List.drop_succ_cons, List.drop_zero, List.take_succ_cons, List.take_zero]; rfl) (by rfl) ?_)
      | ((with_reducible refine gate_dst (N := 19) rfl ?_); refine fr_sub H (n := 6) rfl rfl rfl (by repeat (first | exact At.head | apply At.tail)) Tryz.underlying44 rfl (by kernel_rfl) (by simp only [List.toList_toArray, List.drop_succ_cons, List.drop_zero, List.take_succ_cons, List.take_zero]; rfl) (by rfl) ?_)
      | ((with_reducible refine gate_dst (N := 20) rfl ?_); refine fr_rowv H (N := 20) rfl rfl (fun K hK => by go_simp; exact hK.out) ?_; intro x20 w20 H1; replace H := H1; clear H1)
      | fail)
    go_ret
    exact ⟨rfl, H.below⟩
  have KN' := Lib.hid (fun W => KN.out W rfl)
  have KSa' := Lib.hid (fun W => KSa.out W rfl)
  have KB' := Lib.hid (fun W g A c Ah ch Ax ct => KB.out W g A c Ah ch Ax ct rfl)
  have KRB' := Lib.hid (fun W A c => KRB.out W A c rfl)
  have KT' := Lib.hid (fun W A c => KT.out W A c rfl)
  have HMB : Hid (nt ≤ maxLen ∧ nt * 16 ≤ 140737488355328 ∧ nh ≤ maxLen ∧ nh * 128 ≤ 140737488355328) := Lib.hid (by
    have := HLA.out rfl
    unfold maxLen
    omega)
  have HLB := Lib.hid (HLA.out rfl)
  clear KN KSa KB KRB KT HLA
  go_upto_region 10 with (first
    | (go_at_call 5; (with_reducible refine (alive_calls _).mono ?_); rintro e w' ⟨rfl, hb⟩; have H1 := H.call hb; clear hb; replace H := H1; clear H1)
    | (go_at_call 6; have HT := rowI_one (y := ⟨⟨ticks, heard, ref, reading, given, ttab⟩, Ah, ch, Ax, ct⟩) H (by rw [HEN.out]; exact H.of At.head) HHE.out; (with_reducible refine (KG.out _ _ HT).mono ?_); clear HT; rintro e w' ⟨rfl, hb⟩; have H1 := (H.call hb).drop; clear hb; replace H := H1; clear H1)
    | (at_builtin; refine fr_copy H rfl _ _ 26 rfl i0 _ 2 16 Tryz.underlying26 hi0 hz0 hz1 hz2 rfl (by decide) rfl Ax nt ct (flL ttab) rfl HFL.out (HCX.out _ H.now) HNX.out (flL_one ttab) HMB.out.1 HMB.out.2.1 (fun hx' => by have hx2 : Value.slice Ax nt ct = .slice none 0 ct := hx'; injection hx2 with e1 e2 e3; subst e1 e2; go_simp) ?_; intro A5 c5 w5 H5; clear H; have H := H5; clear H5)
    | (at_builtin; refine fr_copy H rfl _ _ 42 rfl j0 _ 15 128 Tryz.underlying42 hj0 hw0 hw1 hw2 rfl (by decide) rfl Ah nh ch (flH heard) rfl HFH.out (HCH.out _ H.now.1) HNH.out (flH_one heard) HMB.out.2.2.1 HMB.out.2.2.2 (fun hx' => by have hx2 : Value.slice Ah nh ch = .slice none 0 ch := hx'; injection hx2 with e1 e2 e3; subst e1 e2; go_simp) ?_; intro A6 c6 w6 H6; clear H; have H := H6; clear H6)
    | (go_at_call 7; (with_reducible refine (KN'.out _ (HKS.out _ H.now.1.1)).mono ?_); rintro e w' ⟨g, A1, c1, rfl, hg, hb, ho, hne, hB⟩; have H1 := Fr.freshRow H hg hb hB ho hne; clear hg hb hB ho hne H; have H := H1; clear H1)
    | (go_at_call 13; have HT : Tr (fun k => k = g) _ (pR A6 heard A5 ttab A1 z.tab) := Foot.imp (Fr.trAt H (by repeat (first | exact At.head | apply At.tail))) (fun W h => HPB.out W _ A6 c6 A5 c5 A1 c1 h.1.1.2 h.1.2 h.2); (with_reducible refine (KB'.out _ g A1 c1 A6 c6 A5 c5 (H.of (by repeat (first | exact At.head | apply At.tail))) HT).mono ?_); clear HT; rintro e w' ⟨A3, c3, A4, c4, rfl, hb, ho, ho', hne, hc⟩; obtain ⟨E4, hE4, H1⟩ := Fr.turnRowE H (by repeat (first | exact At.head | apply At.tail)) hb hc ho ho' hne; have HE4 := Lib.hid hE4; clear hE4 hb ho ho' hc hne H; have H := H1; clear H1)
    | ((with_reducible refine gate_dst (N := 3) rfl ?_); refine fr_box H rfl rfl rfl ?_; intro g3 w3 H1; replace H := H1; clear H1)
    | ((with_reducible refine gate_dst (N := 4) rfl ?_); refine fr_box H rfl rfl rfl ?_; intro g4 w4 H1; replace H := H1; clear H1)
    | ((with_reducible refine gate_dst (N := 5) rfl ?_); refine fr_box H rfl rfl rfl ?_; intro g5 w5 H1; replace H := H1; clear H1)
    | ((with_reducible refine gate_dst (N := 18) rfl ?_); refine fr_sub H (n := 11) rfl rfl rfl (by repeat (first | exact At.head | apply At.tail)) Tryz.underlying30 rfl (by kernel_rfl) (by simp only [List.toList_toArray, List.drop_succ_cons, List.drop_zero, List.take_succ_cons, List.take_zero]; rfl) (by rfl) ?_)
    | ((with_reducible refine gate_dst (N := 19) rfl ?_); refine fr_sub H (n := 6) rfl rfl rfl (by repeat (first | exact At.head | apply At.tail)) Tryz.underlying44 rfl (by kernel_rfl) (by simp only [List.toList_toArray, List.drop_succ_cons, List.drop_zero, List.take_succ_cons, List.take_zero]; rfl) (by rfl) ?_)
    | ((with_reducible refine gate_dst (N := 20) rfl ?_); refine fr_rowv H (N := 20) rfl rfl (fun K hK => by go_simp; exact hK.out) ?_; intro x20 w20 H1; replace H := H1; clear H1)
    | ((with_reducible refine gate_dst (N := 22) rfl ?_); refine fr_sub H (n := 6) rfl rfl rfl (by repeat (first | exact At.head | apply At.tail)) Tryz.underlying44 rfl (by kernel_rfl) (by simp only [List.toList_toArray, List.drop_succ_cons, List.drop_zero, List.take_succ_cons, List.take_zero]; rfl) (by rfl) ?_)
    | ((with_reducible refine gate_dst (N := 7) rfl ?_); refine fr_new H (N := 7) rfl rfl (cs := #[.int .i64 0, .slice none 0 0, .bool false, .int .i64 0, .bool false, .slice none 0 0]) (t := 44) ?hr ?_; (case hr => first | (go_simp; done) | (go_simp; rfl)); intro g7 w7 H1; replace H := H1; clear H1)
    | ((with_reducible refine gate_store (t := 44) (p := 7) rfl ?_); refine fr_put H rfl rfl rfl rfl rfl (by repeat (first | exact At.head | apply At.tail)) (by rfl) (by kernel_rfl) (by simp [Value.oneCell']) ?_; intro w7_ H1; replace H := H1; clear H1)
    | ((with_reducible refine gate_dst (N := 23) rfl ?_); refine fr_rowv H (N := 23) rfl rfl (fun K hK => by go_simp; exact hK.out) ?_; intro x23 w23 H1; replace H := H1; clear H1)
    | ((with_reducible refine gate_dst (N := 25) rfl ?_); refine fr_get H rfl rfl rfl (by repeat (first | exact At.head | apply At.tail)) Tryz.underlying26 rfl (by simp only [List.getElem?_toArray, List.getElem?_cons_succ, List.getElem?_cons_zero]; rfl) ?_)
    | ((with_reducible refine gate_store (t := 26) (p := 27) rfl ?_); refine fr_set H (u := .slice _ _ _) rfl rfl rfl rfl rfl (by repeat (first | exact At.head | apply At.tail)) (Nat.le_of_ble_eq_true rfl) (by simp only [Value.cells, List.take_succ_cons, List.take_zero, List.drop_succ_cons, List.drop_zero, List.cons_append, List.nil_append, List.size_toArray, List.length_cons, List.length_nil, Nat.reduceAdd, List.append_nil, List.drop_nil, List.take_nil, List.toList_toArray]; rfl) (by kernel_rfl) (by simp [Value.cells, Value.oneCell']) ?_; intro w27_ H1; replace H := H1; clear H1)
    | ((with_reducible refine gate_dst (N := 28) rfl ?_); refine fr_rowv H (N := 28) rfl rfl (fun K hK => by go_simp; exact hK.out) ?_; intro x28 w28 H1; replace H := H1; clear H1)
    | ((with_reducible refine gate_dst (N := 30) rfl ?_); refine fr_get H rfl rfl rfl (by repeat (first | exact At.head | apply At.tail)) Tryz.underlying42 rfl (by simp only [List.getElem?_toArray, List.getElem?_cons_succ, List.getElem?_cons_zero]; rfl) ?_)
    | ((with_reducible refine gate_store (t := 42) (p := 32) rfl ?_); refine fr_set H (u := .slice _ _ _) rfl rfl rfl rfl rfl (by repeat (first | exact At.head | apply At.tail)) (Nat.le_of_ble_eq_true rfl) (by simp only [Value.cells, List.take_succ_cons, List.take_zero, List.drop_succ_cons, List.drop_zero, List.cons_append, List.nil_append, List.size_toArray, List.length_cons, List.length_nil, Nat.reduceAdd, List.append_nil, List.drop_nil, List.take_nil, List.toList_toArray]; rfl) (by kernel_rfl) (by simp [Value.cells, Value.oneCell']) ?_; intro w32_ H1; replace H := H1; clear H1)
    | ((with_reducible refine gate_dst (N := 33) rfl ?_); refine fr_sub H (n := 12) rfl rfl rfl (by repeat (first | exact At.head | apply At.tail)) Tryz.underlying23 rfl (by kernel_rfl) (by simp only [List.toList_toArray, List.drop_succ_cons, List.drop_zero, List.take_succ_cons, List.take_zero]; rfl) (by rfl) ?_)
    | ((with_reducible refine gate_dst (N := 34) rfl ?_); refine fr_sub H (n := 11) rfl rfl rfl (by repeat (first | exact At.head | apply At.tail)) Tryz.underlying30 rfl (by kernel_rfl) (by simp only [List.toList_toArray, List.drop_succ_cons, List.drop_zero, List.take_succ_cons, List.take_zero]; rfl) (by rfl) ?_)
    | ((with_reducible refine gate_dst (N := 37) rfl ?_); refine fr_sub H (n := 6) rfl rfl rfl (by repeat (first | exact At.head | apply At.tail)) Tryz.underlying44 rfl (by kernel_rfl) (by simp only [List.toList_toArray, List.drop_succ_cons, List.drop_zero, List.take_succ_cons, List.take_zero]; rfl) (by rfl) ?_)
    | ((with_reducible refine gate_dst (N := 9) rfl ?_); refine fr_new H (N := 9) rfl rfl (cs := #[.int .i64 0, .int .i64 0, .int .i64 0, .int .i64 0, .int .i64 0, .int .i64 0, .bool false, .bool false, .int .i64 0, .int .i64 0, .int .i64 0, .int .i64 0, .int .i64 0, .slice none 0 0]) (t := 47) ?hr ?_; (case hr => first | (go_simp; done) | (go_simp; rfl)); intro g9 w9 H1; replace H := H1; clear H1)
    | ((with_reducible refine gate_store (t := 47) (p := 9) rfl ?_); refine fr_put H rfl rfl rfl rfl rfl (by repeat (first | exact At.head | apply At.tail)) (by rfl) (by kernel_rfl) (by simp [Value.oneCell']) ?_; intro w9_ H1; replace H := H1; clear H1)
    | fail)
  go_wp2_with (first
    | ((with_reducible refine gate_dst (N := 40) rfl ?_); refine fr_get H rfl rfl rfl (by repeat (first | exact At.head | apply At.tail)) Tryz.underlying26 rfl (by simp only [List.getElem?_toArray, List.getElem?_cons_succ, List.getElem?_cons_zero]; rfl) ?_)
    | fail)
  go_loopw [42] (fun v42 wr => ∃ (k : Nat) (E : List (Nat × Obj)), k ≤ nu ∧ v42 = .int .i64 k ∧ SlotX 58 2 A4 nu E ∧ Fr (fun _ => False) (fun _ => False) w wr (E ++ [(g9, .cells #[.int .i64 1, .int .i64 0, .int .i64 u.lo, .int .i64 u.hi, .int .i64 u.held, .int .i64 u.hops, .bool u.good, .bool rb, .int .i64 s1, .int .i64 s2, .int .i64 pu, .int .i64 u.st, .int .i64 u.sn, .slice A4 nu c4] 47 (0, 0)), (g, .cells #[.int .i64 p.N, .int .i64 p.F, .int .i64 p.D, .int .i64 p.Be, .int .i64 p.Rho, .int .i64 p.De, .int .i64 p.Ji, .int .i64 p.Eps, .int .i64 p.Mu, .int .i64 p.Ho, .int .i64 p.Pu, .int .i64 p.Se, .int .i64 u.lo, .int .i64 u.hi, .int .i64 u.time, .bool u.set, .int .i64 u.held, .int .i64 u.hops, .bool u.good, .slice A3 nu c3, .int .i64 u.st, .int .i64 u.sn, .int .i64 u.life, .int .i64 0] 41 (0, 0)), (g7, .cells #[.int .i64 ticks, .slice A6 nh c6, .bool ref, .int .i64 reading, .bool given, .slice A5 nt c5] 44 (0, 0)), (g5, .cells #[.int .i64 ticks, .slice Ah nh ch, .bool ref, .int .i64 reading, .bool given, .slice Ax nt ct] 44 (0, 0)), (g4, .cells #[.int .i64 slo, .int .i64 shi, .int .i64 stime, .bool sset, .int .i64 sheld, .int .i64 shops, .bool sgood, .slice As ns cs, .int .i64 sst, .int .i64 ssn, .int .i64 slife] 30 (0, 0)), (g3, .cells #[.int .i64 p.N, .int .i64 p.F, .int .i64 p.D, .int .i64 p.Be, .int .i64 p.Rho, .int .i64 p.De, .int .i64 p.Ji, .int .i64 p.Eps, .int .i64 p.Mu, .int .i64 p.Ho, .int .i64 p.Pu, .int .i64 p.Se] 23 (0, 0))]) (fun W => ((((pKe As stab Ah heard Ax ttab W ∧ W.ownsRow w.heap.size 58 2 (.slice A5 nt c5) nt (flL ttab)) ∧ W.ownsRow w.heap.size 49 15 (.slice A6 nh c6) nh (flH heard)) ∧ W.ownsRow w.heap.size 58 2 (.slice A1 z.tab.length c1) z.tab.length (flL z.tab)) ∧ W.ownsRow w.heap.size 58 2 (.slice A3 nu c3) nu (flL u.tab)))) (fun v42 _ => nu - (intOf v42).toNat)
  case atStart => exact ⟨0, E4, by omega, rfl, slotX HE4.out, Fr.swap (E := [(g9, _)]) H⟩
  case round =>
  clear H HE4
  obtain ⟨k, E, hk, rfl, hE, H⟩ := hrel
  by_cases hlt : k < nu
  · rcases hE with ⟨h0, -⟩ | ⟨g40, cur, rfl, rfl, hcur⟩
    · omega
    have hk1 : (k : Int) < (nu : Int) := by omega
    have hs1 : -9223372036854775808 ≤ (k : Int) + 1 := by omega
    have hs2 : (k : Int) + 1 ≤ 9223372036854775807 := by have := HLB.out; omega
    have HCU := Lib.hid hcur
    have HKU := Lib.hid hlt
    have H1 : Fr _ _ _ _ ((g40, .cells cur 58 (0, 0)) :: _) _ := H
    clear H hcur
    have H := H1
    clear H1
    go_wp2_with (first
      | ((with_reducible refine gate_store (t := 58) (p := 49) rfl ?_); refine fr_slot (j := k * 2) H (u := .agg #[.int .i64 77, .int .i64 0]) rfl rfl rfl ?hp rfl ?hs (by kernel_rfl) (by simp [Value.cells, Value.oneCell']) ?_; (case hp => first | rfl | (go_simp; done) | (go_simp; rfl)); (case hs => have := HCU.out; have := HKU.out; show k * 2 + 2 ≤ _; omega); intro cur1 w1 hsz H1; have HSZ := Lib.hid hsz; clear hsz H; have H := H1; clear H1)
      | ((with_reducible refine gate_dst (N := 46) rfl ?_); refine fr_get H rfl rfl rfl (by repeat (first | exact At.head | apply At.tail)) Tryz.underlying26 rfl (by simp only [List.getElem?_toArray, List.getElem?_cons_succ, List.getElem?_cons_zero]; rfl) ?_)
      | ((with_reducible refine gate_store (t := 58) (p := 49) rfl ?_); refine fr_set H (u := .agg (List.toArray _)) rfl rfl rfl rfl rfl (by repeat (first | exact At.head | apply At.tail)) (Nat.le_of_ble_eq_true rfl) (by simp only [Value.cells, List.take_succ_cons, List.take_zero, List.drop_succ_cons, List.drop_zero, List.cons_append, List.nil_append, List.size_toArray, List.length_cons, List.length_nil, Nat.reduceAdd, List.append_nil, List.drop_nil, List.take_nil, List.toList_toArray]; rfl) (by kernel_rfl) (by simp [Value.cells, Value.oneCell']) ?_; intro w49_ H1; replace H := H1; clear H1)
      | fail)
    go_roundw
    case rel => exact ⟨k + 1, [(g40, .cells cur1 58 (0, 0))], by omega, by simp, .inr ⟨g40, cur1, rfl, rfl, by rw [HSZ.out]; exact HCU.out⟩, H⟩
    case measure => simp [intOf]; omega
  obtain rfl : nu = k := by omega
  have H1 := Fr.suf H
  clear H hE hk hlt
  have H := H1
  clear H1
  go_wp2_with (first
    | (go_at_call 10; have HT : Tr (fun _ => False) _ (fun W => RowH W A6 heard) := Foot.imp H.out (fun W h => rowH_own h.1.1.2); (with_reducible refine (KT'.out _ A6 c6 HT).mono ?_); clear HT; rintro e w' ⟨A7, c7, rfl, ho, hb⟩; obtain ⟨E7, hE7, H1⟩ := Fr.callE H hb ho; have HE7 := Lib.hid hE7; clear hE7 ho hb H; have H := H1; clear H1)
    | ((with_reducible refine gate_dst (N := 51) rfl ?_); refine fr_sub H (n := 12) rfl rfl rfl (by repeat (first | exact At.head | apply At.tail)) Tryz.underlying23 rfl (by kernel_rfl) (by simp only [List.toList_toArray, List.drop_succ_cons, List.drop_zero, List.take_succ_cons, List.take_zero]; rfl) (by rfl) ?_)
    | ((with_reducible refine gate_dst (N := 53) rfl ?_); refine fr_get H rfl rfl rfl (by repeat (first | exact At.head | apply At.tail)) Tryz.underlying42 rfl (by simp only [List.getElem?_toArray, List.getElem?_cons_succ, List.getElem?_cons_zero]; rfl) ?_)
    | fail)
  go_loopw [57] (fun v57 wr => ∃ (k : Nat) (E : List (Nat × Obj)), k ≤ m ∧ v57 = .int .i64 k ∧ SlotX 49 15 A7 m E ∧ Fr (fun _ => False) (fun _ => False) w wr (E ++ [(g9, .cells #[.int .i64 1, .int .i64 0, .int .i64 u.lo, .int .i64 u.hi, .int .i64 u.held, .int .i64 u.hops, .bool u.good, .bool rb, .int .i64 s1, .int .i64 s2, .int .i64 pu, .int .i64 u.st, .int .i64 u.sn, .slice A4 nu c4] 47 (0, 0)), (g, .cells #[.int .i64 p.N, .int .i64 p.F, .int .i64 p.D, .int .i64 p.Be, .int .i64 p.Rho, .int .i64 p.De, .int .i64 p.Ji, .int .i64 p.Eps, .int .i64 p.Mu, .int .i64 p.Ho, .int .i64 p.Pu, .int .i64 p.Se, .int .i64 u.lo, .int .i64 u.hi, .int .i64 u.time, .bool u.set, .int .i64 u.held, .int .i64 u.hops, .bool u.good, .slice A3 nu c3, .int .i64 u.st, .int .i64 u.sn, .int .i64 u.life, .int .i64 0] 41 (0, 0)), (g7, .cells #[.int .i64 ticks, .slice A6 nh c6, .bool ref, .int .i64 reading, .bool given, .slice A5 nt c5] 44 (0, 0)), (g5, .cells #[.int .i64 ticks, .slice Ah nh ch, .bool ref, .int .i64 reading, .bool given, .slice Ax nt ct] 44 (0, 0)), (g4, .cells #[.int .i64 slo, .int .i64 shi, .int .i64 stime, .bool sset, .int .i64 sheld, .int .i64 shops, .bool sgood, .slice As ns cs, .int .i64 sst, .int .i64 ssn, .int .i64 slife] 30 (0, 0)), (g3, .cells #[.int .i64 p.N, .int .i64 p.F, .int .i64 p.D, .int .i64 p.Be, .int .i64 p.Rho, .int .i64 p.De, .int .i64 p.Ji, .int .i64 p.Eps, .int .i64 p.Mu, .int .i64 p.Ho, .int .i64 p.Pu, .int .i64 p.Se] 23 (0, 0))]) (fun W => ((((pKe As stab Ah heard Ax ttab W ∧ W.ownsRow w.heap.size 58 2 (.slice A5 nt c5) nt (flL ttab)) ∧ W.ownsRow w.heap.size 49 15 (.slice A6 nh c6) nh (flH heard)) ∧ W.ownsRow w.heap.size 58 2 (.slice A1 z.tab.length c1) z.tab.length (flL z.tab)) ∧ W.ownsRow w.heap.size 58 2 (.slice A3 nu c3) nu (flL u.tab)))) (fun v57 _ => m - (intOf v57).toNat)
  case atStart => exact ⟨0, E7, by omega, rfl, slotX HE7.out, H⟩
  case round =>
  clear H HE7
  obtain ⟨k, E, hk, rfl, hE, H⟩ := hrel
  by_cases hlt : k < m
  · rcases hE with ⟨h0, -⟩ | ⟨g40, cur, rfl, rfl, hcur⟩
    · omega
    have hk1 : (k : Int) < (m : Int) := by omega
    have hs1 : -9223372036854775808 ≤ (k : Int) + 1 := by omega
    have hs2 : (k : Int) + 1 ≤ 9223372036854775807 := by have := HUM.out; omega
    have HCU := Lib.hid hcur
    have HKU := Lib.hid hlt
    have H1 : Fr _ _ _ _ ((g40, .cells cur 49 (0, 0)) :: _) _ := H
    clear H hcur
    have H := H1
    clear H1
    go_wp2_with (first
      | ((with_reducible refine gate_store (t := 49) (p := 63) rfl ?_); refine fr_slot (j := k * 15) H (u := .agg #[.int .i64 0, .int .i64 0, .int .i64 0, .int .i64 0, .int .i64 0, .int .i64 0, .bool false, .bool false, .int .i64 0, .int .i64 0, .int .i64 0, .int .i64 0, .int .i64 0, .slice none 0 0, .int .i64 77]) rfl rfl rfl ?hp rfl ?hs (by kernel_rfl) (by simp [Value.cells, Value.oneCell']) ?_; (case hp => first | rfl | (go_simp; done) | (go_simp; rfl)); (case hs => have := HCU.out; have := HKU.out; show k * 15 + 15 ≤ _; omega); intro cur1 w1 hsz H1; have HSZ := Lib.hid hsz; clear hsz H; have H := H1; clear H1)
      | ((with_reducible refine gate_store (t := 49) (p := 63) rfl ?_); refine fr_set H (u := .agg (List.toArray _)) rfl rfl rfl rfl rfl (by repeat (first | exact At.head | apply At.tail)) (Nat.le_of_ble_eq_true rfl) (by simp only [Value.cells, List.take_succ_cons, List.take_zero, List.drop_succ_cons, List.drop_zero, List.cons_append, List.nil_append, List.size_toArray, List.length_cons, List.length_nil, Nat.reduceAdd, List.append_nil, List.drop_nil, List.take_nil, List.toList_toArray]; rfl) (by kernel_rfl) (by simp [Value.cells, Value.oneCell']) ?_; intro w63_ H1; replace H := H1; clear H1)
      | fail)
    go_roundw
    case rel => exact ⟨k + 1, [(g40, .cells cur1 49 (0, 0))], by omega, by simp, .inr ⟨g40, cur1, rfl, rfl, by rw [HSZ.out]; exact HCU.out⟩, H⟩
    case measure => simp [intOf]; omega
  obtain rfl : m = k := by omega
  have H1 := Fr.suf H
  clear H hE hk hlt
  have H := H1
  clear H1
  go_wp2_with (first
    | (go_at_call 16; (with_reducible refine (KTb.out _ _ _ _ _ (HO1.out _ _ _ _ H.now.1.1.1.2) (HKX.out _ H.now.1.1.1.1)).mono ?_); rintro e w' ⟨rfl, hb⟩; have H1 := H.call hb; clear hb; replace H := H1; clear H1)
    | ((with_reducible refine gate_dst (N := 66) rfl ?_); refine fr_get H rfl rfl rfl (by repeat (first | exact At.head | apply At.tail)) Tryz.underlying26 rfl (by simp only [List.getElem?_toArray, List.getElem?_cons_succ, List.getElem?_cons_zero]; rfl) ?_)
    | ((with_reducible refine gate_dst (N := 68) rfl ?_); refine fr_get H rfl rfl rfl (by repeat (first | exact At.head | apply At.tail)) Tryz.underlying26 rfl (by simp only [List.getElem?_toArray, List.getElem?_cons_succ, List.getElem?_cons_zero]; rfl) ?_)
    | ((with_reducible refine gate_dst (N := 72) rfl ?_); refine fr_get H rfl rfl rfl (by repeat (first | exact At.head | apply At.tail)) Tryz.underlying42 rfl (by simp only [List.getElem?_toArray, List.getElem?_cons_succ, List.getElem?_cons_zero]; rfl) ?_)
    | fail)
  go_loopw [74] (fun v74 wr => ∃ k : Nat, k ≤ nh ∧ v74 = .int .i64 k ∧ Fr (fun _ => False) (fun _ => False) w wr [(g9, .cells #[.int .i64 1, .int .i64 0, .int .i64 u.lo, .int .i64 u.hi, .int .i64 u.held, .int .i64 u.hops, .bool u.good, .bool rb, .int .i64 s1, .int .i64 s2, .int .i64 pu, .int .i64 u.st, .int .i64 u.sn, .slice A4 nu c4] 47 (0, 0)), (g, .cells #[.int .i64 p.N, .int .i64 p.F, .int .i64 p.D, .int .i64 p.Be, .int .i64 p.Rho, .int .i64 p.De, .int .i64 p.Ji, .int .i64 p.Eps, .int .i64 p.Mu, .int .i64 p.Ho, .int .i64 p.Pu, .int .i64 p.Se, .int .i64 u.lo, .int .i64 u.hi, .int .i64 u.time, .bool u.set, .int .i64 u.held, .int .i64 u.hops, .bool u.good, .slice A3 nu c3, .int .i64 u.st, .int .i64 u.sn, .int .i64 u.life, .int .i64 0] 41 (0, 0)), (g7, .cells #[.int .i64 ticks, .slice A6 nh c6, .bool ref, .int .i64 reading, .bool given, .slice A5 nt c5] 44 (0, 0)), (g5, .cells #[.int .i64 ticks, .slice Ah nh ch, .bool ref, .int .i64 reading, .bool given, .slice Ax nt ct] 44 (0, 0)), (g4, .cells #[.int .i64 slo, .int .i64 shi, .int .i64 stime, .bool sset, .int .i64 sheld, .int .i64 shops, .bool sgood, .slice As ns cs, .int .i64 sst, .int .i64 ssn, .int .i64 slife] 30 (0, 0)), (g3, .cells #[.int .i64 p.N, .int .i64 p.F, .int .i64 p.D, .int .i64 p.Be, .int .i64 p.Rho, .int .i64 p.De, .int .i64 p.Ji, .int .i64 p.Eps, .int .i64 p.Mu, .int .i64 p.Ho, .int .i64 p.Pu, .int .i64 p.Se] 23 (0, 0))] (fun W => ((((pKe As stab Ah heard Ax ttab W ∧ W.ownsRow w.heap.size 58 2 (.slice A5 nt c5) nt (flL ttab)) ∧ W.ownsRow w.heap.size 49 15 (.slice A6 nh c6) nh (flH heard)) ∧ W.ownsRow w.heap.size 58 2 (.slice A1 z.tab.length c1) z.tab.length (flL z.tab)) ∧ W.ownsRow w.heap.size 58 2 (.slice A3 nu c3) nu (flL u.tab)))) (fun v74 _ => nh - (intOf v74).toNat)
  case atStart => exact ⟨0, by omega, rfl, H⟩
  case round =>
  clear H
  obtain ⟨k, hk, rfl, H⟩ := hrel
  by_cases hlt : k < nh
  · have hil : k < heard.length := by rw [HNN.out.1]; exact hlt
    have hk1 : (k : Int) < (nh : Int) := by omega
    have hs1 : -9223372036854775808 ≤ (k : Int) + 1 := by omega
    have hs2 : (k : Int) + 1 ≤ 9223372036854775807 := by have := HLB.out; omega
    obtain ⟨bd1, e1, -⟩ := rowH_own H.now.1.1.2 k hil
    cases e1
    obtain ⟨bd2, e2, -⟩ := H.now.1.1.1.1.1.1 k hil
    cases e2
    obtain ⟨q, hq⟩ : ∃ q, heard[k] = q := ⟨_, rfl⟩
    have HMQ : Hid (q ∈ heard) := Lib.hid (hq ▸ List.getElem_mem hil)
    have HC1 : Hid (∀ W, ((((pKe As stab (some bd2) heard Ax ttab W ∧ W.ownsRow w.heap.size 58 2 (.slice A5 nt c5) nt (flL ttab)) ∧ W.ownsRow w.heap.size 49 15 (.slice (some bd1) nh c6) nh (flH heard)) ∧ W.ownsRow w.heap.size 58 2 (.slice A1 z.tab.length c1) z.tab.length (flL z.tab)) ∧ W.ownsRow w.heap.size 58 2 (.slice A3 nu c3) nu (flL u.tab)) → ∀ j v, (encH q)[j]? = some v → W.cell? ((bd1.add (k * 15)).add j) = some v) := Lib.hid (fun W h => by
      obtain ⟨b', e', h'⟩ := rowH_own h.1.1.2 k hil
      cases e'
      rw [hq] at h'
      exact h')
    have HC2 : Hid (∀ W, ((((pKe As stab (some bd2) heard Ax ttab W ∧ W.ownsRow w.heap.size 58 2 (.slice A5 nt c5) nt (flL ttab)) ∧ W.ownsRow w.heap.size 49 15 (.slice (some bd1) nh c6) nh (flH heard)) ∧ W.ownsRow w.heap.size 58 2 (.slice A1 z.tab.length c1) z.tab.length (flL z.tab)) ∧ W.ownsRow w.heap.size 58 2 (.slice A3 nu c3) nu (flL u.tab)) → ∀ j v, (encH q)[j]? = some v → W.cell? ((bd2.add (k * 15)).add j) = some v) := Lib.hid (fun W h => by
      obtain ⟨b', e', h'⟩ := h.1.1.1.1.1.1 k hil
      cases e'
      rw [hq] at h'
      exact h')
    clear hq hil
    obtain ⟨kind, frm, mlo, mhi, mheld, mhops, mgood, mref, mslo, mshi, pulse, mst, msn, Am, nm, cm, age⟩ := q
    have HPF : ∀ (j : Nat) (v : Value), [.int .i64 kind, .int .i64 frm, .int .i64 mlo, .int .i64 mhi, .int .i64 mheld, .int .i64 mhops, .bool mgood, .bool mref, .int .i64 mslo, .int .i64 mshi, .int .i64 pulse, .int .i64 mst, .int .i64 msn, .slice Am nm cm][j]? = some v → (encH ⟨kind, frm, mlo, mhi, mheld, mhops, mgood, mref, mslo, mshi, pulse, mst, msn, Am, nm, cm, age⟩)[j]? = some v := fun j v h => by
      show ([.int .i64 kind, .int .i64 frm, .int .i64 mlo, .int .i64 mhi, .int .i64 mheld, .int .i64 mhops, .bool mgood, .bool mref, .int .i64 mslo, .int .i64 mshi, .int .i64 pulse, .int .i64 mst, .int .i64 msn, .slice Am nm cm] ++ [.int .i64 age] : List Value)[j]? = some v
      rw [List.getElem?_append_left (List.getElem?_eq_some_iff.1 h).1]
      exact h
    have HD1 : Hid (∀ W, ((((pKe As stab (some bd2) heard Ax ttab W ∧ W.ownsRow w.heap.size 58 2 (.slice A5 nt c5) nt (flL ttab)) ∧ W.ownsRow w.heap.size 49 15 (.slice (some bd1) nh c6) nh (flH heard)) ∧ W.ownsRow w.heap.size 58 2 (.slice A1 z.tab.length c1) z.tab.length (flL z.tab)) ∧ W.ownsRow w.heap.size 58 2 (.slice A3 nu c3) nu (flL u.tab)) → ∀ j v, [.int .i64 kind, .int .i64 frm, .int .i64 mlo, .int .i64 mhi, .int .i64 mheld, .int .i64 mhops, .bool mgood, .bool mref, .int .i64 mslo, .int .i64 mshi, .int .i64 pulse, .int .i64 mst, .int .i64 msn, .slice Am nm cm][j]? = some v → W.cell? (((bd1.add (k * 15)).add 0).add j) = some v) := Lib.hid (fun W h j v hv => by rw [add_zero']; exact HC1.out W h j v (HPF j v hv))
    have HD2 : Hid (∀ W, ((((pKe As stab (some bd2) heard Ax ttab W ∧ W.ownsRow w.heap.size 58 2 (.slice A5 nt c5) nt (flL ttab)) ∧ W.ownsRow w.heap.size 49 15 (.slice (some bd1) nh c6) nh (flH heard)) ∧ W.ownsRow w.heap.size 58 2 (.slice A1 z.tab.length c1) z.tab.length (flL z.tab)) ∧ W.ownsRow w.heap.size 58 2 (.slice A3 nu c3) nu (flL u.tab)) → ∀ j v, [.int .i64 kind, .int .i64 frm, .int .i64 mlo, .int .i64 mhi, .int .i64 mheld, .int .i64 mhops, .bool mgood, .bool mref, .int .i64 mslo, .int .i64 mshi, .int .i64 pulse, .int .i64 mst, .int .i64 msn, .slice Am nm cm][j]? = some v → W.cell? (((bd2.add (k * 15)).add 0).add j) = some v) := Lib.hid (fun W h j v hv => by rw [add_zero']; exact HC2.out W h j v (HPF j v hv))
    have KSM : Hid (∀ W, ((((pKe As stab (some bd2) heard Ax ttab W ∧ W.ownsRow w.heap.size 58 2 (.slice A5 nt c5) nt (flL ttab)) ∧ W.ownsRow w.heap.size 49 15 (.slice (some bd1) nh c6) nh (flH heard)) ∧ W.ownsRow w.heap.size 58 2 (.slice A1 z.tab.length c1) z.tab.length (flL z.tab)) ∧ W.ownsRow w.heap.size 58 2 (.slice A3 nu c3) nu (flL u.tab)) → Calls Tryz.prog 12 #[.agg #[.int .i64 kind, .int .i64 frm, .int .i64 mlo, .int .i64 mhi, .int .i64 mheld, .int .i64 mhops, .bool mgood, .bool mref, .int .i64 mslo, .int .i64 mshi, .int .i64 pulse, .int .i64 mst, .int .i64 msn, .slice Am nm cm], .agg #[.int .i64 kind, .int .i64 frm, .int .i64 mlo, .int .i64 mhi, .int .i64 mheld, .int .i64 mhops, .bool mgood, .bool mref, .int .i64 mslo, .int .i64 mshi, .int .i64 pulse, .int .i64 mst, .int .i64 msn, .slice Am nm cm]] W fun e w' => e = .returned (.bool true) ∧ Below W.heap.size W w') := Lib.hid (fun W h => by
      obtain ⟨t, ht, hC⟩ := h.1.1.1.1.2 _ HMQ.out
      exact RSameM_calls kind frm mlo mhi mheld mhops mgood mref mslo mshi pulse mst msn Am Am cm cm nm t W ht hC hC)
    clear HPF
    go_upto_region 26 with fail
    refine ko_region0 H (by kernel_rfl) (by as_aux_lemma => kernel_rfl) (fun HR => ?_)
    repeat (first
      | ((with_reducible refine kg_dst (N := 82) rfl ?_); refine ko_cell rfl (by rfl) (by rfl) Tryz.underlying3 rfl (fun W hC => HC1.out W (HR W hC).now 14 _ rfl) ?_; (try simp only [Act.put, lsA, lsZ, lsS, Nat.reduceAdd]))
      | ((with_reducible refine kg_dst (N := 88) rfl ?_); refine ko_cell rfl (by rfl) (by rfl) Tryz.underlying3 rfl (fun W hC => HC2.out W (HR W hC).now 14 _ rfl) ?_; (try simp only [Act.put, lsA, lsZ, lsS, Nat.reduceAdd]))
      | ((with_reducible refine kg_dst (N := 96) rfl ?_); refine ko_cells (cs := [.int .i64 kind, .int .i64 frm, .int .i64 mlo, .int .i64 mhi, .int .i64 mheld, .int .i64 mhops, .bool mgood, .bool mref, .int .i64 mslo, .int .i64 mshi, .int .i64 pulse, .int .i64 mst, .int .i64 msn, .slice Am nm cm]) rfl (by rfl) (by rfl) Tryz.underlying47 rfl (by kernel_rfl) (fun W hC => HD1.out W (HR W hC).now) ?_; (try simp only [Act.put, lsA, lsZ, lsS, Nat.reduceAdd]))
      | ((with_reducible refine kg_dst (N := 102) rfl ?_); refine ko_cells (cs := [.int .i64 kind, .int .i64 frm, .int .i64 mlo, .int .i64 mhi, .int .i64 mheld, .int .i64 mhops, .bool mgood, .bool mref, .int .i64 mslo, .int .i64 mshi, .int .i64 pulse, .int .i64 mst, .int .i64 msn, .slice Am nm cm]) rfl (by rfl) (by rfl) Tryz.underlying47 rfl (by kernel_rfl) (fun W hC => HD2.out W (HR W hC).now) ?_; (try simp only [Act.put, lsA, lsZ, lsS, Nat.reduceAdd]))
      | ((with_reducible refine kg_call (f := 12) rfl ?_); refine ko_call 12 _ rfl (by rfl) Tryz.func12 (by kernel_rfl) rfl (by kernel_rfl) (by simp only [List.map_toArray, List.map_cons, List.map_nil]; rfl) (fun W hC hd => KSM.out W (HR W hC).now) ?_; (try simp only [Act.put, lsA, lsZ, lsS, Nat.reduceAdd]))
      | ((with_reducible refine kg_load (ty := 42) rfl ?_); refine ko_get HR rfl (by rfl) (by rfl) (by repeat (first | exact At.head | apply At.tail)) Tryz.underlying42 rfl (by simp only [List.getElem?_toArray, List.getElem?_cons_succ, List.getElem?_cons_zero]; rfl) ?_; (try simp only [Act.put, lsA, lsZ, lsS, Nat.reduceAdd]))
      | ((with_reducible refine kg_load (ty := 3) rfl ?_); refine ko_get HR rfl (by rfl) (by rfl) (by repeat (first | exact At.head | apply At.tail)) Tryz.underlying3 rfl (by simp only [List.getElem?_toArray, List.getElem?_cons_succ, List.getElem?_cons_zero]; rfl) ?_; (try simp only [Act.put, lsA, lsZ, lsS, Nat.reduceAdd]))
      | ((with_reducible refine kg_load (ty := 47) rfl ?_); refine ko_sub HR (n := 14) rfl (by rfl) (by rfl) (by repeat (first | exact At.head | apply At.tail)) Tryz.underlying47 rfl (by kernel_rfl) (by simp only [List.toList_toArray, List.drop_succ_cons, List.drop_zero, List.take_succ_cons, List.take_zero]; rfl) (by rfl) ?_; (try simp only [Act.put, lsA, lsZ, lsS, Nat.reduceAdd]))
      | ((with_reducible refine kg_load (ty := 23) rfl ?_); refine ko_sub HR (n := 12) rfl (by rfl) (by rfl) (by repeat (first | exact At.head | apply At.tail)) Tryz.underlying23 rfl (by kernel_rfl) (by simp only [List.toList_toArray, List.drop_succ_cons, List.drop_zero, List.take_succ_cons, List.take_zero]; rfl) (by rfl) ?_; (try simp only [Act.put, lsA, lsZ, lsS, Nat.reduceAdd]))
      | ((with_reducible refine kg_load (ty := 30) rfl ?_); refine ko_sub HR (n := 11) rfl (by rfl) (by rfl) (by repeat (first | exact At.head | apply At.tail)) Tryz.underlying30 rfl (by kernel_rfl) (by simp only [List.toList_toArray, List.drop_succ_cons, List.drop_zero, List.take_succ_cons, List.take_zero]; rfl) (by rfl) ?_; (try simp only [Act.put, lsA, lsZ, lsS, Nat.reduceAdd]))
      | ((with_reducible refine kg_load (ty := 44) rfl ?_); refine ko_sub HR (n := 6) rfl (by rfl) (by rfl) (by repeat (first | exact At.head | apply At.tail)) Tryz.underlying44 rfl (by kernel_rfl) (by simp only [List.toList_toArray, List.drop_succ_cons, List.drop_zero, List.take_succ_cons, List.take_zero]; rfl) (by rfl) ?_; (try simp only [Act.put, lsA, lsZ, lsS, Nat.reduceAdd]))
      | ((with_reducible refine kg_dst (N := 14) rfl ?_); refine ko_var rfl (by rfl) (fun W K hK => by go_simp; exact hK.out) ?_; intro g14; (try simp only [Act.put, lsA, lsZ, lsS, Nat.reduceAdd]))
      | ((with_reducible refine kg_dst (N := 15) rfl ?_); refine ko_var rfl (by rfl) (fun W K hK => by go_simp; exact hK.out) ?_; intro g15; (try simp only [Act.put, lsA, lsZ, lsS, Nat.reduceAdd]))
      | ((with_reducible refine kg_store (ty := 30) rfl ?_); refine ko_put (u := .agg (List.toArray _)) rfl rfl (by rfl) (by rfl) (by rfl) (by repeat (first | exact VarAt.head | apply VarAt.tail)) (by kernel_rfl) (Nat.le_of_ble_eq_true rfl) (by simp only [Value.cells, List.take_succ_cons, List.take_zero, List.drop_succ_cons, List.drop_zero, List.cons_append, List.nil_append, List.length_cons, List.length_nil, Nat.reduceAdd, List.append_nil, List.drop_nil, List.take_nil]; rfl) (by repeat (first | exact VarAt.head | apply VarAt.tail)) (by simp [apartR, Value.cells]) (by kernel_rfl) (by simp [Value.cells, Value.oneCell']) ?_; (try simp only [Value.cells, List.length_cons, List.length_nil, Nat.reduceAdd]))
      | ((with_reducible refine kg_store (ty := 47) rfl ?_); refine ko_put (u := .agg (List.toArray _)) rfl rfl (by rfl) (by rfl) (by rfl) (by repeat (first | exact VarAt.head | apply VarAt.tail)) (by kernel_rfl) (Nat.le_of_ble_eq_true rfl) (by simp only [Value.cells, List.take_succ_cons, List.take_zero, List.drop_succ_cons, List.drop_zero, List.cons_append, List.nil_append, List.length_cons, List.length_nil, Nat.reduceAdd, List.append_nil, List.drop_nil, List.take_nil]; rfl) (by repeat (first | exact VarAt.head | apply VarAt.tail)) (by simp [apartR, Value.cells]) (by kernel_rfl) (by simp [Value.cells, Value.oneCell']) ?_; (try simp only [Value.cells, List.length_cons, List.length_nil, Nat.reduceAdd]))
      | (refine ko_pure rfl (by rfl) (fun W K hK => by go_simp; exact hK.out) ?_; (try simp only [Act.put, lsA, lsZ, lsS, Nat.reduceAdd]))
      | (refine ko_off (by rfl) ?_; (try simp only [Act.put, lsA, lsZ, lsS, Nat.reduceAdd])))
    refine ko_end ?_
    intro w1 H1
    clear HR H
    have H := H1
    clear H1
    (try simp only [List.map_cons, List.map_nil, cv, List.cons_append, List.nil_append] at H)
    go_wp2
    go_roundw
    case rel => exact ⟨k + 1, by omega, by simp, H⟩
    case measure => simp [intOf]; omega
  obtain rfl : nh = k := by omega
  clear hk hlt
  go_upto_region 29 with fail
  have H1 := Fr.imp (Fr.sublist (Fr.drop H) (List.Sublist.cons_cons _ (List.Sublist.cons _ (List.Sublist.refl _)))) (q := fun W => pKe As stab Ah heard Ax ttab W ∧ W.ownsRow w.heap.size 58 2 (.slice A3 nu c3) nu (flL u.tab)) (fun W h => ⟨h.1.1.1.1, h.2⟩)
  clear H
  have H : Fr (fun _ => False) (fun _ => False) w _ [(g, .cells #[.int .i64 p.N, .int .i64 p.F, .int .i64 p.D, .int .i64 p.Be, .int .i64 p.Rho, .int .i64 p.De, .int .i64 p.Ji, .int .i64 p.Eps, .int .i64 p.Mu, .int .i64 p.Ho, .int .i64 p.Pu, .int .i64 p.Se, .int .i64 u.lo, .int .i64 u.hi, .int .i64 u.time, .bool u.set, .int .i64 u.held, .int .i64 u.hops, .bool u.good, .slice A3 nu c3, .int .i64 u.st, .int .i64 u.sn, .int .i64 u.life, .int .i64 0] 41 (0, 0)), (g5, .cells #[.int .i64 ticks, .slice Ah nh ch, .bool ref, .int .i64 reading, .bool given, .slice Ax nt ct] 44 (0, 0)), (g4, .cells #[.int .i64 slo, .int .i64 shi, .int .i64 stime, .bool sset, .int .i64 sheld, .int .i64 shops, .bool sgood, .slice As ns cs, .int .i64 sst, .int .i64 ssn, .int .i64 slife] 30 (0, 0)), (g3, .cells #[.int .i64 p.N, .int .i64 p.F, .int .i64 p.D, .int .i64 p.Be, .int .i64 p.Rho, .int .i64 p.De, .int .i64 p.Ji, .int .i64 p.Eps, .int .i64 p.Mu, .int .i64 p.Ho, .int .i64 p.Pu, .int .i64 p.Se] 23 (0, 0))] (fun W => pKe As stab Ah heard Ax ttab W ∧ W.ownsRow w.heap.size 58 2 (.slice A3 nu c3) nu (flL u.tab)) := H1
  clear H1
  go_cut [14, 15] (fun v14 v15 wc => ∃ (g14 g15 : Nat) (A7 : Option Addr) (c7 : Nat), v14 = .pointer (some ⟨g14, 0, none⟩) ∧ v15 = .pointer (some ⟨g15, 0, none⟩) ∧ Fr (fun _ => False) (fun _ => False) w wc [(g14, .cells #[.int .i64 u.lo, .int .i64 u.hi, .int .i64 u.time, .bool u.set, .int .i64 u.held, .int .i64 u.hops, .bool u.good, .slice A7 nu c7, .int .i64 u.st, .int .i64 u.sn, .int .i64 u.life] 30 (0, 0)), (g, .cells #[.int .i64 p.N, .int .i64 p.F, .int .i64 p.D, .int .i64 p.Be, .int .i64 p.Rho, .int .i64 p.De, .int .i64 p.Ji, .int .i64 p.Eps, .int .i64 p.Mu, .int .i64 p.Ho, .int .i64 p.Pu, .int .i64 p.Se, .int .i64 u.lo, .int .i64 u.hi, .int .i64 u.time, .bool u.set, .int .i64 u.held, .int .i64 u.hops, .bool u.good, .slice A3 nu c3, .int .i64 u.st, .int .i64 u.sn, .int .i64 u.life, .int .i64 0] 41 (0, 0)), (g5, .cells #[.int .i64 ticks, .slice Ah nh ch, .bool ref, .int .i64 reading, .bool given, .slice Ax nt ct] 44 (0, 0)), (g4, .cells #[.int .i64 slo, .int .i64 shi, .int .i64 stime, .bool sset, .int .i64 sheld, .int .i64 shops, .bool sgood, .slice As ns cs, .int .i64 sst, .int .i64 ssn, .int .i64 slife] 30 (0, 0)), (g3, .cells #[.int .i64 p.N, .int .i64 p.F, .int .i64 p.D, .int .i64 p.Be, .int .i64 p.Rho, .int .i64 p.De, .int .i64 p.Ji, .int .i64 p.Eps, .int .i64 p.Mu, .int .i64 p.Ho, .int .i64 p.Pu, .int .i64 p.Se] 23 (0, 0))] (fun W => (pKe As stab Ah heard Ax ttab W ∧ W.ownsRow w.heap.size 58 2 (.slice A3 nu c3) nu (flL u.tab)) ∧ W.ownsRow w.heap.size 58 2 (.slice A7 nu c7) nu (flL u.tab)))
  case first =>
    refine ro_start (Frs (fun _ => False) (fun _ => False) w [(g5, .cells #[.int .i64 ticks, .slice Ah nh ch, .bool ref, .int .i64 reading, .bool given, .slice Ax nt ct] 44 (0, 0)), (g4, .cells #[.int .i64 slo, .int .i64 shi, .int .i64 stime, .bool sset, .int .i64 sheld, .int .i64 shops, .bool sgood, .slice As ns cs, .int .i64 sst, .int .i64 ssn, .int .i64 slife] 30 (0, 0)), (g3, .cells #[.int .i64 p.N, .int .i64 p.F, .int .i64 p.D, .int .i64 p.Be, .int .i64 p.Rho, .int .i64 p.De, .int .i64 p.Ji, .int .i64 p.Eps, .int .i64 p.Mu, .int .i64 p.Ho, .int .i64 p.Pu, .int .i64 p.Se] 23 (0, 0))] (fun W => pKe As stab Ah heard Ax ttab W ∧ W.ownsRow w.heap.size 58 2 (.slice A3 nu c3) nu (flL u.tab))) [11, 12] [0, 1, 2, 4, 3, 5, 9, 10, 6, 7, 8, 11, 12] 13 (by kernel_rfl) (by rfl) (by simp only [pickR, List.getElem?_cons_succ, List.getElem?_cons_zero]; rfl) (by rfl) ((H.drewN 1).drop) (fun HS0 => ?_)
    have HS : Fr _ _ _ _ _ _ := HS0
    have H1 := H.drewN 1
    clear HS0 H
    have H := H1
    clear H1
    repeat (first
      | ((with_reducible refine rz_load (ty := 23) rfl ?_); refine ro_sub HS (m := 12) rfl (by kernel_rfl) (fun _ _ _ h => h) (by rfl) (by rfl) (by repeat (first | exact At.head | apply At.tail)) Tryz.underlying23 rfl (by kernel_rfl) (by simp only [List.toList_toArray, List.drop_succ_cons, List.drop_zero, List.take_succ_cons, List.take_zero]; rfl) (by rfl) ?_; (try simp only [Act.put, lsA, lsZ, lsS, Nat.reduceAdd]))
      | ((with_reducible refine rz_load (ty := 30) rfl ?_); refine ro_sub HS (m := 11) rfl (by kernel_rfl) (fun _ _ _ h => h) (by rfl) (by rfl) (by repeat (first | exact At.head | apply At.tail)) Tryz.underlying30 rfl (by kernel_rfl) (by simp only [List.toList_toArray, List.drop_succ_cons, List.drop_zero, List.take_succ_cons, List.take_zero]; rfl) (by rfl) ?_; (try simp only [Act.put, lsA, lsZ, lsS, Nat.reduceAdd]))
      | ((with_reducible refine rz_load (ty := 44) rfl ?_); refine ro_sub HS (m := 6) rfl (by kernel_rfl) (fun _ _ _ h => h) (by rfl) (by rfl) (by repeat (first | exact At.head | apply At.tail)) Tryz.underlying44 rfl (by kernel_rfl) (by simp only [List.toList_toArray, List.drop_succ_cons, List.drop_zero, List.take_succ_cons, List.take_zero]; rfl) (by rfl) ?_; (try simp only [Act.put, lsA, lsZ, lsS, Nat.reduceAdd])))
    refine ro_two2 (ps := [8, 7, 6]) (d := 3) (rp := [(6, _), (7, _), (8, _)]) (u1 := undef) (u2 := undef) (x0 := undef) (y0 := undef) (z1 := #[.int .i64 0, .int .i64 0, .int .i64 0, .bool false, .int .i64 0, .int .i64 0, .bool false, .slice none 0 0, .int .i64 0, .int .i64 0, .int .i64 0]) (z2 := #[.int .i64 0, .int .i64 0, .int .i64 0, .int .i64 0, .int .i64 0, .int .i64 0, .bool false, .bool false, .int .i64 0, .int .i64 0, .int .i64 0, .int .i64 0, .int .i64 0, .slice none 0 0]) (t1 := 30) (t2 := 47) (fun v a => ((a.put (some 107) v).put (some 114) (elT v 0)).put (some 115) (elT v 1)) 111 113 14 15
      (fun v bl => ∃ A2 c2 E2, v = .agg #[.int .i64 z.lo, .int .i64 z.hi, .int .i64 z.time, .bool z.set, .int .i64 z.held, .int .i64 z.hops, .bool z.good, .slice A2 z.tab.length c2, .int .i64 z.st, .int .i64 z.sn, .int .i64 z.life] ∧ RowX 58 2 A2 z.tab.length c2 (flL z.tab) E2 ∧ bl = E2 ++ [(g, .cells #[.int .i64 p.N, .int .i64 p.F, .int .i64 p.D, .int .i64 p.Be, .int .i64 p.Rho, .int .i64 p.De, .int .i64 p.Ji, .int .i64 p.Eps, .int .i64 p.Mu, .int .i64 p.Ho, .int .i64 p.Pu, .int .i64 p.Se, .int .i64 u.lo, .int .i64 u.hi, .int .i64 u.time, .bool u.set, .int .i64 u.held, .int .i64 u.hops, .bool u.good, .slice A3 nu c3, .int .i64 u.st, .int .i64 u.sn, .int .i64 u.life, .int .i64 0] 41 (0, 0)), (g5, .cells #[.int .i64 ticks, .slice Ah nh ch, .bool ref, .int .i64 reading, .bool given, .slice Ax nt ct] 44 (0, 0)), (g4, .cells #[.int .i64 slo, .int .i64 shi, .int .i64 stime, .bool sset, .int .i64 sheld, .int .i64 shops, .bool sgood, .slice As ns cs, .int .i64 sst, .int .i64 ssn, .int .i64 slife] 30 (0, 0)), (g3, .cells #[.int .i64 p.N, .int .i64 p.F, .int .i64 p.D, .int .i64 p.Be, .int .i64 p.Rho, .int .i64 p.De, .int .i64 p.Ji, .int .i64 p.Eps, .int .i64 p.Mu, .int .i64 p.Ho, .int .i64 p.Pu, .int .i64 p.Se] 23 (0, 0))])
      (fun v v2 bl => ∃ A2 c2 A7 c7 A8 c8 E7, v = .agg #[.int .i64 z.lo, .int .i64 z.hi, .int .i64 z.time, .bool z.set, .int .i64 z.held, .int .i64 z.hops, .bool z.good, .slice A2 z.tab.length c2, .int .i64 z.st, .int .i64 z.sn, .int .i64 z.life] ∧ v2 = .tuple #[.agg #[.int .i64 u.lo, .int .i64 u.hi, .int .i64 u.time, .bool u.set, .int .i64 u.held, .int .i64 u.hops, .bool u.good, .slice A7 nu c7, .int .i64 u.st, .int .i64 u.sn, .int .i64 u.life], .agg #[.int .i64 1, .int .i64 0, .int .i64 u.lo, .int .i64 u.hi, .int .i64 u.held, .int .i64 u.hops, .bool u.good, .bool rb, .int .i64 s1, .int .i64 s2, .int .i64 pu, .int .i64 u.st, .int .i64 u.sn, .slice A8 nu c8]] ∧ RowX 58 2 A7 nu c7 (flL u.tab) E7 ∧ bl = E7 ++ [(g, .cells #[.int .i64 p.N, .int .i64 p.F, .int .i64 p.D, .int .i64 p.Be, .int .i64 p.Rho, .int .i64 p.De, .int .i64 p.Ji, .int .i64 p.Eps, .int .i64 p.Mu, .int .i64 p.Ho, .int .i64 p.Pu, .int .i64 p.Se, .int .i64 u.lo, .int .i64 u.hi, .int .i64 u.time, .bool u.set, .int .i64 u.held, .int .i64 u.hops, .bool u.good, .slice A3 nu c3, .int .i64 u.st, .int .i64 u.sn, .int .i64 u.life, .int .i64 0] 41 (0, 0)), (g5, .cells #[.int .i64 ticks, .slice Ah nh ch, .bool ref, .int .i64 reading, .bool given, .slice Ax nt ct] 44 (0, 0)), (g4, .cells #[.int .i64 slo, .int .i64 shi, .int .i64 stime, .bool sset, .int .i64 sheld, .int .i64 shops, .bool sgood, .slice As ns cs, .int .i64 sst, .int .i64 ssn, .int .i64 slife] 30 (0, 0)), (g3, .cells #[.int .i64 p.N, .int .i64 p.F, .int .i64 p.D, .int .i64 p.Be, .int .i64 p.Rho, .int .i64 p.De, .int .i64 p.Ji, .int .i64 p.Eps, .int .i64 p.Mu, .int .i64 p.Ho, .int .i64 p.Pu, .int .i64 p.Se] 23 (0, 0))])
      H (by kernel_rfl) rfl rfl (by decide) (by intros; simp only [acT, bT, elT, Act.put, lsA, lsZ, lsS])
      (by intros; simp only [acT, bT, elT, Act.put, lsA, lsZ, lsS]; rfl) (by intros; simp only [acT, bT, elT, Act.put, lsA, lsZ, lsS]; rfl) (by intro b; intros; cases b <;> (simp only [acT, bT, elT, Act.put, lsA, lsZ, lsS]; rfl)) (by intro b; intros; cases b <;> (simp only [acT, bT, elT, Act.put, lsA, lsZ, lsS]; rfl))
      (by intros; simp only [acT, bT, elT, Act.put, lsA, lsZ, lsS]) (by intros; simp only [acT, bT, elT, Act.put, lsA, lsZ, lsS]) (by intro b; intros; cases b <;> simp only [acT, bT, elT, Act.put, lsA, lsZ, lsS]) (by intro b; intros; cases b <;> simp only [acT, bT, elT, Act.put, lsA, lsZ, lsS])
      (fun b v1 v2 Y W K hK => by cases b <;> (unfold bT; go_simp; exact hK.out)) (fun b v1 v2 X W K hK => by cases b <;> (unfold bT; go_simp; exact hK.out))
      (fun E W H => (Fr.suf H).drop) (by rintro v1 bl1 ⟨A2, c2, E2, rfl, hE, rfl⟩ E W H; exact (Fr.suf (Fr.suf H)).drop) (by rintro v1 v2 bl1 ⟨A2, c2, A7, c7, A8, c8, E7, rfl, rfl, hE, rfl⟩ E W H; exact (Fr.suf (Fr.suf H)).drop)
      ?k1 ?k2 ?hps ?hend
    case hps =>
      rintro hrp v1 v2 bl2 ⟨A2, c2, A7, c7, A8, c8, E7, rfl, rfl, hE, rfl⟩ x y X Y W f h
      have hh := Lib.hid h
      have o6 := hrp _ List.mem_cons_self
      have o7 := hrp _ (List.mem_cons_of_mem _ List.mem_cons_self)
      have o8 := hrp _ (List.mem_cons_of_mem _ (List.mem_cons_of_mem _ List.mem_cons_self))
      clear h hrp
      cases x <;> cases y
      all_goals
        have h := hh.out
        simp only [acT, bT, elT, Act.put, lsA, lsZ, lsS]
        simp only [acT, bT, elT, Act.put, lsA, lsZ, lsS] at h
        refine wa_pure (f := f + 2) o6 (by kernel_rfl) (fun _ _ _ h => h) (by rfl) (fun W K hK => by go_simp; exact hK.out) ?_
        simp only [Act.put, lsA, lsZ, lsS]
        refine wa_pure (f := f + 1) o7 (by kernel_rfl) (fun _ _ _ h => h) (by rfl) (fun W K hK => by go_simp; exact hK.out) ?_
        simp only [Act.put, lsA, lsZ, lsS]
        refine wa_pure (f := f) o8 (by kernel_rfl) (fun _ _ _ h => h) (by rfl) (fun W K hK => by go_simp; exact hK.out) ?_
        simp only [Act.put, lsA, lsZ, lsS]
        exact h
    case k1 =>
      intro E W X Y K H hK
      refine wp_enter 8 _ rfl Tryz.func8 (by kernel_rfl) rfl (by simp only [acT, Act.put, lsA, lsZ, lsS, List.map_toArray, List.map_cons, List.map_nil]; rfl) ?_
      refine (KSa'.out W (HKS.out _ H.now.1)).mono ?_
      rintro e w' ⟨A2, c2, rfl, ho, hb⟩
      obtain ⟨E2, hE2, H1⟩ := Fr.callE H hb ho
      exact ⟨_, rfl, hK _ _ _ ⟨A2, c2, E2, rfl, hE2, rfl⟩ (Fr.swap H1)⟩
    case k2 =>
      rintro v1 bl1 ⟨A2, c2, E2, rfl, hE2, rfl⟩ E W X Y K H hK
      have ho2 := (Fr.inP (Fr.swap H) hE2).now.2
      have HT : Tr (fun _ => False) W (pR Ah heard Ax ttab A2 z.tab) := Foot.imp (Tr.and (Tr.less H.tr (fun k _ h => h.elim)) (Go.Proofs.YtbmfgcekglgliaaGreatEv.Tr.of_C (own_C' ho2) k58_heap)) (fun W h => ⟨h.1.1.1.1, h.1.1.1.2.1, h.2⟩)
      refine wp_enter 14 _ rfl Tryz.func14 (by kernel_rfl) rfl (by simp only [acT, Act.put, lsA, lsZ, lsS, List.map_toArray, List.map_cons, List.map_nil]; rfl) ?_
      refine (KRB'.out W A2 c2 HT).mono ?_
      rintro e w' ⟨A7, c7, A8, c8, rfl, ho, ho', hb⟩
      obtain ⟨E7, hE7, H1⟩ := Fr.callE H hb ho
      exact ⟨_, rfl, hK _ _ _ ⟨A2, c2, A7, c7, A8, c8, E7, rfl, rfl, hE7, rfl⟩ (Fr.sublist (Fr.swap H1) ((List.Sublist.refl E).append ((List.Sublist.refl E7).append (List.sublist_append_right E2 _))))⟩
    case hend =>
      rintro v1 v2 bl2 g14 g15 W ⟨A2, c2, A7, c7, A8, c8, E7, rfl, rfl, hE7, rfl⟩ HE
      have HE7 := Lib.hid hE7
      clear H hE7
      have H := HE
      clear HE
      unfold ptrT
      simp only [acT, bT, elT, Act.put, lsA, lsZ, lsS]
      repeat (first
        | (refine ro_pure (by kernel_rfl) (fun _ _ _ h => h) (by rfl) (fun W K hK => by go_simp; exact hK.out) ?_; (try simp only [Act.put, lsA, lsZ, lsS, Nat.reduceAdd]))
        | ((with_reducible refine rz_store (ty := 30) rfl ?_); refine ro_set H (u := .agg (List.toArray _)) rfl rfl (by kernel_rfl) (by kernel_rfl) (by rfl) (by rfl) (by rfl) (by repeat (first | exact At.head | apply At.tail)) (Nat.le_of_ble_eq_true rfl) (by simp only [Value.cells, List.take_succ_cons, List.take_zero, List.drop_succ_cons, List.drop_zero, List.cons_append, List.nil_append, List.size_toArray, List.length_cons, List.length_nil, Nat.reduceAdd, List.append_nil, List.drop_nil, List.take_nil, List.toList_toArray]; rfl) (by kernel_rfl) (by simp [Value.cells, Value.oneCell']) ?_; intro w1 H1; replace H := H1; clear H1; (try simp only [Act.put, lsA, lsZ, lsS, Nat.reduceAdd]))
        | ((with_reducible refine rz_store (ty := 47) rfl ?_); refine ro_set H (u := .agg (List.toArray _)) rfl rfl (by kernel_rfl) (by kernel_rfl) (by rfl) (by rfl) (by rfl) (by repeat (first | exact At.head | apply At.tail)) (Nat.le_of_ble_eq_true rfl) (by simp only [Value.cells, List.take_succ_cons, List.take_zero, List.drop_succ_cons, List.drop_zero, List.cons_append, List.nil_append, List.size_toArray, List.length_cons, List.length_nil, Nat.reduceAdd, List.append_nil, List.drop_nil, List.take_nil, List.toList_toArray]; rfl) (by kernel_rfl) (by simp [Value.cells, Value.oneCell']) ?_; intro w1 H1; replace H := H1; clear H1; (try simp only [Act.put, lsA, lsZ, lsS, Nat.reduceAdd])))
      refine ro_done (by kernel_rfl) ?_
      go_wp2
      go_meet
      case rel =>
        have H1 := Fr.sublist H (List.Sublist.cons_cons _ (List.Sublist.cons _ (List.Sublist.refl _)))
        exact ⟨g14, g15, A7, c7, rfl, rfl, Fr.inP (Fr.swap (E := [(g14, _)]) H1) HE7.out⟩
  case rest =>
    obtain ⟨g14, g15, A7, c7, rfl, rfl, H1⟩ := hcut
    clear H
    have H := H1
    clear H1
    go_upto_region 30 with fail
    refine ko_region0 H (by kernel_rfl) (by as_aux_lemma => kernel_rfl) (fun HR => ?_)
    repeat (first
      | ((with_reducible refine kg_call (f := 9) rfl ?_); refine ko_call 9 _ rfl (by rfl) Tryz.func9 (by kernel_rfl) rfl (by kernel_rfl) (by simp only [List.map_toArray, List.map_cons, List.map_nil]; rfl) (fun W hC hd => KSS.out W A3 A7 c3 c7 (HO2.out _ _ _ _ (HR W hC).now.1.2) (HO2.out _ _ _ _ (HR W hC).now.2)) ?_; (try simp only [Act.put, lsA, lsZ, lsS, Nat.reduceAdd]))
      | ((with_reducible refine kg_load (ty := 42) rfl ?_); refine ko_get HR rfl (by rfl) (by rfl) (by repeat (first | exact At.head | apply At.tail)) Tryz.underlying42 rfl (by simp only [List.getElem?_toArray, List.getElem?_cons_succ, List.getElem?_cons_zero]; rfl) ?_; (try simp only [Act.put, lsA, lsZ, lsS, Nat.reduceAdd]))
      | ((with_reducible refine kg_load (ty := 3) rfl ?_); refine ko_get HR rfl (by rfl) (by rfl) (by repeat (first | exact At.head | apply At.tail)) Tryz.underlying3 rfl (by simp only [List.getElem?_toArray, List.getElem?_cons_succ, List.getElem?_cons_zero]; rfl) ?_; (try simp only [Act.put, lsA, lsZ, lsS, Nat.reduceAdd]))
      | ((with_reducible refine kg_load (ty := 47) rfl ?_); refine ko_sub HR (n := 14) rfl (by rfl) (by rfl) (by repeat (first | exact At.head | apply At.tail)) Tryz.underlying47 rfl (by kernel_rfl) (by simp only [List.toList_toArray, List.drop_succ_cons, List.drop_zero, List.take_succ_cons, List.take_zero]; rfl) (by rfl) ?_; (try simp only [Act.put, lsA, lsZ, lsS, Nat.reduceAdd]))
      | ((with_reducible refine kg_load (ty := 23) rfl ?_); refine ko_sub HR (n := 12) rfl (by rfl) (by rfl) (by repeat (first | exact At.head | apply At.tail)) Tryz.underlying23 rfl (by kernel_rfl) (by simp only [List.toList_toArray, List.drop_succ_cons, List.drop_zero, List.take_succ_cons, List.take_zero]; rfl) (by rfl) ?_; (try simp only [Act.put, lsA, lsZ, lsS, Nat.reduceAdd]))
      | ((with_reducible refine kg_load (ty := 30) rfl ?_); refine ko_sub HR (n := 11) rfl (by rfl) (by rfl) (by repeat (first | exact At.head | apply At.tail)) Tryz.underlying30 rfl (by kernel_rfl) (by simp only [List.toList_toArray, List.drop_succ_cons, List.drop_zero, List.take_succ_cons, List.take_zero]; rfl) (by rfl) ?_; (try simp only [Act.put, lsA, lsZ, lsS, Nat.reduceAdd]))
      | ((with_reducible refine kg_load (ty := 44) rfl ?_); refine ko_sub HR (n := 6) rfl (by rfl) (by rfl) (by repeat (first | exact At.head | apply At.tail)) Tryz.underlying44 rfl (by kernel_rfl) (by simp only [List.toList_toArray, List.drop_succ_cons, List.drop_zero, List.take_succ_cons, List.take_zero]; rfl) (by rfl) ?_; (try simp only [Act.put, lsA, lsZ, lsS, Nat.reduceAdd]))
      | ((with_reducible refine kg_dst (N := 14) rfl ?_); refine ko_var rfl (by rfl) (fun W K hK => by go_simp; exact hK.out) ?_; intro g14; (try simp only [Act.put, lsA, lsZ, lsS, Nat.reduceAdd]))
      | ((with_reducible refine kg_dst (N := 15) rfl ?_); refine ko_var rfl (by rfl) (fun W K hK => by go_simp; exact hK.out) ?_; intro g15; (try simp only [Act.put, lsA, lsZ, lsS, Nat.reduceAdd]))
      | ((with_reducible refine kg_store (ty := 30) rfl ?_); refine ko_put (u := .agg (List.toArray _)) rfl rfl (by rfl) (by rfl) (by rfl) (by repeat (first | exact VarAt.head | apply VarAt.tail)) (by kernel_rfl) (Nat.le_of_ble_eq_true rfl) (by simp only [Value.cells, List.take_succ_cons, List.take_zero, List.drop_succ_cons, List.drop_zero, List.cons_append, List.nil_append, List.length_cons, List.length_nil, Nat.reduceAdd, List.append_nil, List.drop_nil, List.take_nil]; rfl) (by repeat (first | exact VarAt.head | apply VarAt.tail)) (by simp [apartR, Value.cells]) (by kernel_rfl) (by simp [Value.cells, Value.oneCell']) ?_; (try simp only [Value.cells, List.length_cons, List.length_nil, Nat.reduceAdd]))
      | ((with_reducible refine kg_store (ty := 47) rfl ?_); refine ko_put (u := .agg (List.toArray _)) rfl rfl (by rfl) (by rfl) (by rfl) (by repeat (first | exact VarAt.head | apply VarAt.tail)) (by kernel_rfl) (Nat.le_of_ble_eq_true rfl) (by simp only [Value.cells, List.take_succ_cons, List.take_zero, List.drop_succ_cons, List.drop_zero, List.cons_append, List.nil_append, List.length_cons, List.length_nil, Nat.reduceAdd, List.append_nil, List.drop_nil, List.take_nil]; rfl) (by repeat (first | exact VarAt.head | apply VarAt.tail)) (by simp [apartR, Value.cells]) (by kernel_rfl) (by simp [Value.cells, Value.oneCell']) ?_; (try simp only [Value.cells, List.length_cons, List.length_nil, Nat.reduceAdd]))
      | (refine ko_pure rfl (by rfl) (fun W K hK => by go_simp; exact hK.out) ?_; (try simp only [Act.put, lsA, lsZ, lsS, Nat.reduceAdd]))
      | (refine ko_off (by rfl) ?_; (try simp only [Act.put, lsA, lsZ, lsS, Nat.reduceAdd])))
    refine ko_end ?_
    intro w1 H1
    clear HR H
    have H := H1
    clear H1
    (try simp only [List.map_cons, List.map_nil, cv, List.cons_append, List.nil_append] at H)
    go_wp2
    go_ret
    exact ⟨rfl, H.below⟩
end Go.Proofs.YtbmfgcekglgliaaGreat.G

namespace Go.Proofs.YtbmfgcekglgliaaGreat.G
open Go.RowKit Go.Proofs.YtbmfgcekglgliaaGreatW.PrintWords Go.Proofs.YtbmfgcekglgliaaGreatW.PrintLast Go.Proofs.YtbmfgcekglgliaaGreatW.PrintMore Go.Proofs.YtbmfgcekglgliaaGreatPl Go.Proofs.YtbmfgcekglgliaaGreatEm Go.Proofs.YtbmfgcekglgliaaGreatKr Go.Proofs.YtbmfgcekglgliaaGreatRz Go.Proofs.YtbmfgcekglgliaaGreat.X
set_option linter.unusedVariables false
theorem RowH.trK {w : World} {A : Option Addr} {l : List Hd} (h : RowH w A l) : Tr (fun _ => False) w (fun W => RowH W A l) := by
  intro W' hW k hk
  obtain ⟨ad, e, hc⟩ := h k hk
  refine ⟨ad, e, fun j u hu => ?_⟩
  have h5 := hc j u hu
  have h6 := World.block_lt_of_cell? w _ h5
  have hb := hW _ (fun q => q) h6
  rw [show W'.cell? ((ad.add (k * 15)).add j) = w.cell? ((ad.add (k * 15)).add j) by simp [World.cell?, hb]]
  exact h5
theorem TabH.trK {w : World} {h : Hd} (g : TabH w h) : Tr (fun _ => False) w (fun W => TabH W h) := fun W' hW => by
  obtain ⟨t, ht, hC⟩ := g
  exact ⟨t, ht, Go.Proofs.YtbmfgcekglgliaaGreatEv.Tr.of_C hC k58_heap W' hW⟩
theorem clepsydralaw22_GateKeeps.calls (a0_0 a0_1 a0_2 a0_3 a0_4 a0_5 a0_6 a0_7 a0_8 a0_9 a0_10 a0_11 : Int) (a1_0 a1_1 a1_2 : Int) (a1_3 : Bool) (a1_4 a1_5 : Int) (a1_6 : Bool) (A1_7 : Option Addr) (c1_7 : Nat) (l1_7 : List Lp) (a1_8 a1_9 a1_10 : Int) (a2_0 : Int) (A2_1 : Option Addr) (c2_1 : Nat) (l2_1 : List Hrd) (a2_2 : Bool) (a2_3 : Int) (a2_4 : Bool) (A2_5 : Option Addr) (c2_5 : Nat) (l2_5 : List Lp) (w : World) (hr1 : Kd.C k58 w A1_7 l1_7.length l1_7) (hc1 : l1_7.length ≤ c1_7) (hr2 : Kd.C k49 w A2_1 l2_1.length l2_1) (hc2 : l2_1.length ≤ c2_1) (hr5 : Kd.C k58 w A2_5 l2_5.length l2_5) (hc5 : l2_5.length ≤ c2_5) :
    Calls Tryz.prog 4 #[.agg #[.int .i64 a0_0, .int .i64 a0_1, .int .i64 a0_2, .int .i64 a0_3, .int .i64 a0_4, .int .i64 a0_5, .int .i64 a0_6, .int .i64 a0_7, .int .i64 a0_8, .int .i64 a0_9, .int .i64 a0_10, .int .i64 a0_11], .agg #[.int .i64 a1_0, .int .i64 a1_1, .int .i64 a1_2, .bool a1_3, .int .i64 a1_4, .int .i64 a1_5, .bool a1_6, .slice A1_7 l1_7.length c1_7, .int .i64 a1_8, .int .i64 a1_9, .int .i64 a1_10], .agg #[.int .i64 a2_0, .slice A2_1 l2_1.length c2_1, .bool a2_2, .int .i64 a2_3, .bool a2_4, .slice A2_5 l2_5.length c2_5]] w fun e w' => e = .returned (.bool true) ∧ Below w.heap.size w w' := by
  obtain ⟨hs, hlen, ht, hrow⟩ := rowH_in hr2
  have hT : ∀ q, q ∈ hs → TabH w q := fun q hq => by
    obtain ⟨k, hk, e⟩ := List.getElem_of_mem hq
    obtain ⟨A, c, e1, e2, e3⟩ := ht k hk (by rw [← hlen]; exact hk)
    rw [← e, e1]
    exact ⟨_, rfl, e3⟩
  have := Keeps_calls ⟨a0_0, a0_1, a0_2, a0_3, a0_4, a0_5, a0_6, a0_7, a0_8, a0_9, a0_10, a0_11⟩ ⟨a1_0, a1_1, a1_2, a1_3, a1_4, a1_5, a1_6, l1_7, a1_8, a1_9, a1_10⟩ A1_7 c1_7 ⟨a2_0, hs, a2_2, a2_3, a2_4, l2_5⟩ A2_1 c2_1 A2_5 c2_5 w (Tr.and (Tr.and (RowH.trK hrow) (Tr.and (Go.Proofs.YtbmfgcekglgliaaGreatEv.Tr.of_C hr5 k58_heap) (Go.Proofs.YtbmfgcekglgliaaGreatEv.Tr.of_C hr1 k58_heap))) (fun W' hW q hq => TabH.trK (hT q hq) W' hW)) (by rw [hlen]; exact hr2.2.1)
  rw [hlen] at this
  exact this
end Go.Proofs.YtbmfgcekglgliaaGreat.G
