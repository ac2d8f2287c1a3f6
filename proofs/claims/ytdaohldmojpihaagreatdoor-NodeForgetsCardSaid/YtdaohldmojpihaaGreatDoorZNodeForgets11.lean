/- Texts NodeForgets, NodeForgetsC, in one file, without what is not needed here. -/
import Derived.Test.YtdaohldmojpihaaGreatDoorZNodeForgets10
namespace Go.Proofs.YtdaohldmojpihaaGreatDoor.G
open Go.RowKit Go.Proofs.YtdaohldmojpihaaGreatDoorW.PrintWords Go.Proofs.YtdaohldmojpihaaGreatDoorW.PrintLast Go.Proofs.YtdaohldmojpihaaGreatDoorW.PrintMore Go.Proofs.YtdaohldmojpihaaGreatDoorPl Go.Proofs.YtdaohldmojpihaaGreatDoorEm Go.Proofs.YtdaohldmojpihaaGreatDoorKr Go.Proofs.YtdaohldmojpihaaGreatDoorRz Go.Proofs.YtdaohldmojpihaaGreatDoor.X Go.Proofs.YtdaohldmojpihaaGreatDoorAy
open Go.Proofs.YtdaohldmojpihaaGreatDoor.Mb (Tab FT atF hearF tickF nums GoodF Ab nearE)
set_option linter.unusedVariables false
set_option linter.unusedSimpArgs false
set_option maxRecDepth 100000 in
set_option maxHeartbeats 40000000 in
theorem NForgets_calls (p : Par) (sa sb : St) (Aa : Option Addr) (ca : Nat) (Ab : Option Addr) (cb : Nat) (x1 x2 : Inp) (Ah1 : Option Addr) (ch1 : Nat) (Ax1 : Option Addr) (ct1 : Nat) (Ah2 : Option Addr) (ch2 : Nat) (Ax2 : Option Addr) (ct2 : Nat) (ta : Option Addr → Nat → List Lp) (w : World) (hr : Tr (fun _ => False) w (pNF ta Ah1 x1.heard Ah2 x2.heard Aa sa.tab Ab sb.tab)) (hh1 : x1.heard.length ≤ 9223372036854775807) (hh2 : x2.heard.length ≤ 9223372036854775807) (hk1 : hdOk ta x1.heard) (hk2 : hdOk ta x2.heard) :
    Calls Tryz.prog 5 #[.agg #[.int .i64 p.N, .int .i64 p.F, .int .i64 p.D, .int .i64 p.Be, .int .i64 p.Rho, .int .i64 p.De, .int .i64 p.Ji, .int .i64 p.Eps, .int .i64 p.Mu, .int .i64 p.Ho, .int .i64 p.Pu, .int .i64 p.Se], .agg #[.int .i64 sa.lo, .int .i64 sa.hi, .int .i64 sa.time, .bool sa.set, .int .i64 sa.held, .int .i64 sa.hops, .bool sa.good, .slice Aa sa.tab.length ca, .int .i64 sa.st, .int .i64 sa.sn, .int .i64 sa.life], .agg #[.int .i64 sb.lo, .int .i64 sb.hi, .int .i64 sb.time, .bool sb.set, .int .i64 sb.held, .int .i64 sb.hops, .bool sb.good, .slice Ab sb.tab.length cb, .int .i64 sb.st, .int .i64 sb.sn, .int .i64 sb.life], .agg #[.int .i64 x1.ticks, .slice Ah1 x1.heard.length ch1, .bool x1.ref, .int .i64 x1.reading, .bool x1.given, .slice Ax1 x1.tab.length ct1], .agg #[.int .i64 x2.ticks, .slice Ah2 x2.heard.length ch2, .bool x2.ref, .int .i64 x2.reading, .bool x2.given, .slice Ax2 x2.tab.length ct2]] w fun e w' => e = .returned (.bool true) ∧ Below w.heap.size w w' := by
  have H := Fr.start0 (M := fun _ => False) (A := fun _ => False) (w := w) (p := fun W => pNF ta Ah1 x1.heard Ah2 x2.heard Aa sa.tab Ab sb.tab W ∧ owns w.heap.size [] W) (fun _ h => h.elim) (Foot.imp hr (fun W h => ⟨h, fun r hr => by cases hr⟩))
  have HTB := Lib.hid (hr w (fun _ _ _ => rfl)).2.2.2.2.1
  obtain ⟨b1, hb1⟩ : ∃ b, greatP sa.tab.length [⟨x1, Ah1, ch1, Ax1, ct1⟩, ⟨x2, Ah2, ch2, Ax2, ct2⟩] = b := ⟨_, rfl⟩
  obtain ⟨b2, hb2⟩ : ∃ b, greatP sb.tab.length [] = b := ⟨_, rfl⟩
  obtain ⟨ck, hck⟩ : ∃ b, checkP p = b := ⟨_, rfl⟩
  have KC : Hid (∀ W, Calls Tryz.prog 10 #[.agg #[.int .i64 p.N, .int .i64 p.F, .int .i64 p.D, .int .i64 p.Be, .int .i64 p.Rho, .int .i64 p.De, .int .i64 p.Ji, .int .i64 p.Eps, .int .i64 p.Mu, .int .i64 p.Ho, .int .i64 p.Pu, .int .i64 p.Se]] W fun e w' => e = .returned (.int .i64 (if ck = true then 0 else 1)) ∧ Below W.heap.size W w') := Lib.hid (fun W => by have := Check_calls p W; rw [hck] at this; exact this)
  have HPD : Hid (ck = true → 0 ≤ p.D ∧ p.D ≤ 16) := Lib.hid (fun h => check_D (hck.trans h))
  obtain ⟨n1, hn1⟩ : ∃ n, x1.heard.length = n := ⟨_, rfl⟩
  obtain ⟨m1, hm1⟩ : ∃ n, x1.tab.length = n := ⟨_, rfl⟩
  obtain ⟨n2, hn2⟩ : ∃ n, x2.heard.length = n := ⟨_, rfl⟩
  obtain ⟨m2, hm2⟩ : ∃ n, x2.tab.length = n := ⟨_, rfl⟩
  have KGA : Hid (∀ W y, Tr (fun _ => False) W (fun W => RowI W (some ⟨y, 0, none⟩) [⟨x1, Ah1, ch1, Ax1, ct1⟩, ⟨x2, Ah2, ch2, Ax2, ct2⟩]) → Calls Tryz.prog 11 #[.agg #[.int .i64 sa.lo, .int .i64 sa.hi, .int .i64 sa.time, .bool sa.set, .int .i64 sa.held, .int .i64 sa.hops, .bool sa.good, .slice Aa sa.tab.length ca, .int .i64 sa.st, .int .i64 sa.sn, .int .i64 sa.life], .slice (some ⟨y, 0, none⟩) 2 2] W fun e w' => e = .returned (.bool b1) ∧ Below W.heap.size W w') := Lib.hid (fun W y h => by
    have := great_calls sa.lo sa.hi sa.time sa.set sa.held sa.hops sa.good Aa sa.tab.length ca sa.st sa.sn sa.life (some ⟨y, 0, none⟩) 2 [⟨x1, Ah1, ch1, Ax1, ct1⟩, ⟨x2, Ah2, ch2, Ax2, ct2⟩] W h (by simp) (fun y hy => (List.mem_cons.1 hy).elim (fun e => by rw [e]; exact hh1) (fun hy => by rw [List.mem_singleton.1 hy]; exact hh2))
    rw [hb1] at this
    exact this)
  have KGB : Hid (∀ W, Calls Tryz.prog 11 #[.agg #[.int .i64 sb.lo, .int .i64 sb.hi, .int .i64 sb.time, .bool sb.set, .int .i64 sb.held, .int .i64 sb.hops, .bool sb.good, .slice Ab sb.tab.length cb, .int .i64 sb.st, .int .i64 sb.sn, .int .i64 sb.life], .slice none 0 0] W fun e w' => e = .returned (.bool b2) ∧ Below W.heap.size W w') := Lib.hid (fun W => by
    have := great_calls sb.lo sb.hi sb.time sb.set sb.held sb.hops sb.good Ab sb.tab.length cb sb.st sb.sn sb.life none 0 [] W (fun _ _ => rowI_nil _ _) (by decide) (fun y hy => by simp at hy)
    rw [hb2] at this
    exact this)
  have HEN : Hid (encI ⟨x1, Ah1, ch1, Ax1, ct1⟩ ++ encI ⟨x2, Ah2, ch2, Ax2, ct2⟩ = [.int .i64 x1.ticks, .slice Ah1 n1 ch1, .bool x1.ref, .int .i64 x1.reading, .bool x1.given, .slice Ax1 m1 ct1, .int .i64 x2.ticks, .slice Ah2 n2 ch2, .bool x2.ref, .int .i64 x2.reading, .bool x2.given, .slice Ax2 m2 ct2]) := Lib.hid (by unfold encI; dsimp only; rw [hn1, hm1, hn2, hm2]; rfl)
  have HHE : Hid (∀ W, (pNF ta Ah1 x1.heard Ah2 x2.heard Aa sa.tab Ab sb.tab W ∧ owns w.heap.size [] W) → RowH W Ah1 x1.heard ∧ RowH W Ah2 x2.heard) := Lib.hid (fun W h => ⟨h.1.1, h.1.2.1⟩)
  have HL : Hid (b1 = false → sa.tab.length ≤ 4096 ∧ (n1 ≤ 4096 ∧ tbOk (tbH ta) x1.heard) ∧ (n2 ≤ 4096 ∧ tbOk (tbH ta) x2.heard)) := Lib.hid (fun h => by
    rw [h] at hb1
    obtain ⟨h1, h2, h3⟩ := great_two hb1
    dsimp only at h2 h3
    rw [← hn1, ← hn2]
    exact ⟨by omega, ⟨by omega, hdOk_tb hk1 h2.2⟩, ⟨by omega, hdOk_tb hk2 h3.2⟩⟩)
  have HLB : Hid (b2 = false → sb.tab.length ≤ 4096) := Lib.hid (fun h => by
    rw [h] at hb2
    have := great_nil hb2
    omega)
  obtain ⟨za, hza⟩ : ∃ z, saneS p.D sa = z := ⟨_, rfl⟩
  obtain ⟨zb, hzb⟩ : ∃ z, saneS p.D sb = z := ⟨_, rfl⟩
  obtain ⟨l1, hl1⟩ : ∃ l, (knP 20 fN0 x1.heard).1 = l := ⟨_, rfl⟩
  obtain ⟨f1, hf1⟩ : ∃ f, tickF 2 (knP 20 fN0 x1.heard).2 = f := ⟨_, rfl⟩
  obtain ⟨l2, hl2⟩ : ∃ l, (knP 20 f1 x2.heard).1 = l := ⟨_, rfl⟩
  obtain ⟨f2, hf2⟩ : ∃ f, tickF 2 (knP 20 f1 x2.heard).2 = f := ⟨_, rfl⟩
  have HG1 : Hid (GoodF f1) := Lib.hid (by rw [← hf1]; exact Mb.GoodF.tick (kn_good _ Mb.good_none))
  obtain ⟨ua, hua⟩ : ∃ z, beatT p ta l1 za x1.ticks = z := ⟨_, rfl⟩
  obtain ⟨ub, hub⟩ : ∃ z, beatT p ta l1 zb x1.ticks = z := ⟨_, rfl⟩
  obtain ⟨va, hva⟩ : ∃ z, beatT p ta l2 ua x2.ticks = z := ⟨_, rfl⟩
  obtain ⟨vb, hvb⟩ : ∃ z, beatT p ta l2 ub x2.ticks = z := ⟨_, rfl⟩
  obtain ⟨pua, hpua⟩ : ∃ z, pulseS p (beatN0 p ta l1 za x1.ticks) = z := ⟨_, rfl⟩
  obtain ⟨pub, hpub⟩ : ∃ z, pulseS p (beatN0 p ta l1 zb x1.ticks) = z := ⟨_, rfl⟩
  obtain ⟨pva, hpva⟩ : ∃ z, pulseS p (beatN0 p ta l2 ua x2.ticks) = z := ⟨_, rfl⟩
  obtain ⟨pvb, hpvb⟩ : ∃ z, pulseS p (beatN0 p ta l2 ub x2.ticks) = z := ⟨_, rfl⟩
  have HFO : Hid (ck = true → va.hops = vb.hops ∧ (¬ p.D < va.hops → va.lo = vb.lo ∧ va.hi = vb.hi ∧ va.held = vb.held ∧ va.good = true ∧ vb.good = true)) := Lib.hid (fun h => by
    rw [← hva, ← hvb]
    exact node_forgets p ta l2 ua ub x2.ticks (HPD.out h))
  have KNA : Hid (∀ W, b1 = false → pNF ta Ah1 x1.heard Ah2 x2.heard Aa sa.tab Ab sb.tab W → Calls Tryz.prog 12 #[.agg #[.int .i64 p.N, .int .i64 p.F, .int .i64 p.D, .int .i64 p.Be, .int .i64 p.Rho, .int .i64 p.De, .int .i64 p.Ji, .int .i64 p.Eps, .int .i64 p.Mu, .int .i64 p.Ho, .int .i64 p.Pu, .int .i64 p.Se], .int .i64 20, .agg #[.int .i64 sa.lo, .int .i64 sa.hi, .int .i64 sa.time, .bool sa.set, .int .i64 sa.held, .int .i64 sa.hops, .bool sa.good, .slice Aa sa.tab.length ca, .int .i64 sa.st, .int .i64 sa.sn, .int .i64 sa.life]] W fun e w' => ∃ g t b A' c', e = .returned (.pointer (some ⟨g, 0, none⟩)) ∧ (W.heap.size ≤ g ∧ W.heap.size ≤ t ∧ W.heap.size ≤ b) ∧ w'.heap[g]? = some (.cells #[.int .i64 p.N, .int .i64 p.F, .int .i64 p.D, .int .i64 p.Be, .int .i64 p.Rho, .int .i64 p.De, .int .i64 p.Ji, .int .i64 p.Eps, .int .i64 p.Mu, .int .i64 p.Ho, .int .i64 p.Pu, .int .i64 p.Se, .int .i64 za.lo, .int .i64 za.hi, .int .i64 za.time, .bool za.set, .int .i64 za.held, .int .i64 za.hops, .bool za.good, .slice A' za.tab.length c', .int .i64 za.st, .int .i64 za.sn, .int .i64 za.life, .int .i64 20, .pointer (some ⟨t, 0, none⟩)] 53 (0, 0)) ∧ Tab w' t b fN0 ∧ (OR.mk 72 2 A' za.tab.length c' (flL za.tab)).own W.heap.size w' ∧ Below W.heap.size W w') := Lib.hid (fun W hb h => by
    have := NNew_calls p 20 sa Aa ca W h.2.2.2.2.2.1 (HL.out hb).1
    rw [hza] at this
    exact this)
  have KNB : Hid (∀ W, b2 = false → pNF ta Ah1 x1.heard Ah2 x2.heard Aa sa.tab Ab sb.tab W → Calls Tryz.prog 12 #[.agg #[.int .i64 p.N, .int .i64 p.F, .int .i64 p.D, .int .i64 p.Be, .int .i64 p.Rho, .int .i64 p.De, .int .i64 p.Ji, .int .i64 p.Eps, .int .i64 p.Mu, .int .i64 p.Ho, .int .i64 p.Pu, .int .i64 p.Se], .int .i64 20, .agg #[.int .i64 sb.lo, .int .i64 sb.hi, .int .i64 sb.time, .bool sb.set, .int .i64 sb.held, .int .i64 sb.hops, .bool sb.good, .slice Ab sb.tab.length cb, .int .i64 sb.st, .int .i64 sb.sn, .int .i64 sb.life]] W fun e w' => ∃ g t b A' c', e = .returned (.pointer (some ⟨g, 0, none⟩)) ∧ (W.heap.size ≤ g ∧ W.heap.size ≤ t ∧ W.heap.size ≤ b) ∧ w'.heap[g]? = some (.cells #[.int .i64 p.N, .int .i64 p.F, .int .i64 p.D, .int .i64 p.Be, .int .i64 p.Rho, .int .i64 p.De, .int .i64 p.Ji, .int .i64 p.Eps, .int .i64 p.Mu, .int .i64 p.Ho, .int .i64 p.Pu, .int .i64 p.Se, .int .i64 zb.lo, .int .i64 zb.hi, .int .i64 zb.time, .bool zb.set, .int .i64 zb.held, .int .i64 zb.hops, .bool zb.good, .slice A' zb.tab.length c', .int .i64 zb.st, .int .i64 zb.sn, .int .i64 zb.life, .int .i64 20, .pointer (some ⟨t, 0, none⟩)] 53 (0, 0)) ∧ Tab w' t b fN0 ∧ (OR.mk 72 2 A' zb.tab.length c' (flL zb.tab)).own W.heap.size w' ∧ Below W.heap.size W w') := Lib.hid (fun W hb h => by
    have := NNew_calls p 20 sb Ab cb W h.2.2.2.2.2.2 (HLB.out hb)
    rw [hzb] at this
    exact this)
  have KB1A : Hid (∀ W g t b A c, ck = true → b1 = false → W.heap[g]? = some (.cells #[.int .i64 p.N, .int .i64 p.F, .int .i64 p.D, .int .i64 p.Be, .int .i64 p.Rho, .int .i64 p.De, .int .i64 p.Ji, .int .i64 p.Eps, .int .i64 p.Mu, .int .i64 p.Ho, .int .i64 p.Pu, .int .i64 p.Se, .int .i64 za.lo, .int .i64 za.hi, .int .i64 za.time, .bool za.set, .int .i64 za.held, .int .i64 za.hops, .bool za.good, .slice A za.tab.length c, .int .i64 za.st, .int .i64 za.sn, .int .i64 za.life, .int .i64 20, .pointer (some ⟨t, 0, none⟩)] 53 (0, 0)) → Tab W t b fN0 → Tr (ndM b t g) W (fun W => pNF ta Ah1 x1.heard Ah2 x2.heard Aa sa.tab Ab sb.tab W ∧ Kd.C k72 W A za.tab.length za.tab) → Calls Tryz.prog 13 #[.pointer (some ⟨g, 0, none⟩), .agg #[.int .i64 x1.ticks, .slice Ah1 n1 ch1, .bool x1.ref, .int .i64 x1.reading, .bool x1.given, .slice Ax1 m1 ct1]] W fun e w' => ∃ A1 c1 A2 c2, e = .returned (.agg #[.int .i64 2, .int .i64 20, .int .i64 ua.lo, .int .i64 ua.hi, .int .i64 ua.held, .int .i64 ua.hops, .bool ua.good, .bool false, .int .i64 0, .int .i64 0, .int .i64 pua, .int .i64 ua.st, .int .i64 ua.sn, .slice A2 ua.tab.length c2]) ∧ w'.heap[g]? = some (.cells #[.int .i64 p.N, .int .i64 p.F, .int .i64 p.D, .int .i64 p.Be, .int .i64 p.Rho, .int .i64 p.De, .int .i64 p.Ji, .int .i64 p.Eps, .int .i64 p.Mu, .int .i64 p.Ho, .int .i64 p.Pu, .int .i64 p.Se, .int .i64 ua.lo, .int .i64 ua.hi, .int .i64 ua.time, .bool ua.set, .int .i64 ua.held, .int .i64 ua.hops, .bool ua.good, .slice A1 ua.tab.length c1, .int .i64 ua.st, .int .i64 ua.sn, .int .i64 ua.life, .int .i64 20, .pointer (some ⟨t, 0, none⟩)] 53 (0, 0)) ∧ Tab w' t b f1 ∧ (OR.mk 72 2 A1 ua.tab.length c1 (flL ua.tab)).own W.heap.size w' ∧ (OR.mk 72 2 A2 ua.tab.length c2 (flL ua.tab)).own W.heap.size w' ∧ Chg (ndM b t g) W w') := Lib.hid (fun W g t b A c hc hb h1 h2 h3 => by
    have HW := hdOk_wf hk1
    have := NBeat_calls p (by have := HPD.out hc; omega) 20 za A c g t b fN0 ta x1.ticks x1.heard Ah1 ch1 x1.ref x1.reading x1.given Ax1 m1 ct1 W h1 h2 Mb.good_none (Foot.imp h3 (fun W h => pNF_1 h.1 h.2)) (HL.out hb).2.1.2 (by rw [hn1]; exact (HL.out hb).2.1.1) (by rw [← hza]; exact Nat.le_trans (sane_len _ _) (HL.out hb).1) HW
    rw [hn1] at this
    refine this.mono ?_
    rintro e w' ⟨z, l, A1, c1, A2, c2, hl, hz, h4, h5, h6, h7, h8, _, h9⟩
    rw [hl1] at hl
    subst hl hz
    rw [hpua] at h4
    rw [hf1] at h6
    refine ⟨A1, c1, A2, c2, ?_, ?_, h6, ?_, ?_, h9⟩
    · rw [← hua]; exact h4
    · rw [← hua]; exact h5
    · rw [← hua]; exact h7
    · rw [← hua]; exact h8)
  have KB1B : Hid (∀ W g t b A c, ck = true → b1 = false → b2 = false → W.heap[g]? = some (.cells #[.int .i64 p.N, .int .i64 p.F, .int .i64 p.D, .int .i64 p.Be, .int .i64 p.Rho, .int .i64 p.De, .int .i64 p.Ji, .int .i64 p.Eps, .int .i64 p.Mu, .int .i64 p.Ho, .int .i64 p.Pu, .int .i64 p.Se, .int .i64 zb.lo, .int .i64 zb.hi, .int .i64 zb.time, .bool zb.set, .int .i64 zb.held, .int .i64 zb.hops, .bool zb.good, .slice A zb.tab.length c, .int .i64 zb.st, .int .i64 zb.sn, .int .i64 zb.life, .int .i64 20, .pointer (some ⟨t, 0, none⟩)] 53 (0, 0)) → Tab W t b fN0 → Tr (ndM b t g) W (fun W => pNF ta Ah1 x1.heard Ah2 x2.heard Aa sa.tab Ab sb.tab W ∧ Kd.C k72 W A zb.tab.length zb.tab) → Calls Tryz.prog 13 #[.pointer (some ⟨g, 0, none⟩), .agg #[.int .i64 x1.ticks, .slice Ah1 n1 ch1, .bool x1.ref, .int .i64 x1.reading, .bool x1.given, .slice Ax1 m1 ct1]] W fun e w' => ∃ A1 c1 A2 c2, e = .returned (.agg #[.int .i64 2, .int .i64 20, .int .i64 ub.lo, .int .i64 ub.hi, .int .i64 ub.held, .int .i64 ub.hops, .bool ub.good, .bool false, .int .i64 0, .int .i64 0, .int .i64 pub, .int .i64 ub.st, .int .i64 ub.sn, .slice A2 ub.tab.length c2]) ∧ w'.heap[g]? = some (.cells #[.int .i64 p.N, .int .i64 p.F, .int .i64 p.D, .int .i64 p.Be, .int .i64 p.Rho, .int .i64 p.De, .int .i64 p.Ji, .int .i64 p.Eps, .int .i64 p.Mu, .int .i64 p.Ho, .int .i64 p.Pu, .int .i64 p.Se, .int .i64 ub.lo, .int .i64 ub.hi, .int .i64 ub.time, .bool ub.set, .int .i64 ub.held, .int .i64 ub.hops, .bool ub.good, .slice A1 ub.tab.length c1, .int .i64 ub.st, .int .i64 ub.sn, .int .i64 ub.life, .int .i64 20, .pointer (some ⟨t, 0, none⟩)] 53 (0, 0)) ∧ Tab w' t b f1 ∧ (OR.mk 72 2 A1 ub.tab.length c1 (flL ub.tab)).own W.heap.size w' ∧ (OR.mk 72 2 A2 ub.tab.length c2 (flL ub.tab)).own W.heap.size w' ∧ Chg (ndM b t g) W w') := Lib.hid (fun W g t b A c hc hb hb2 h1 h2 h3 => by
    have HW := hdOk_wf hk1
    have := NBeat_calls p (by have := HPD.out hc; omega) 20 zb A c g t b fN0 ta x1.ticks x1.heard Ah1 ch1 x1.ref x1.reading x1.given Ax1 m1 ct1 W h1 h2 Mb.good_none (Foot.imp h3 (fun W h => pNF_1 h.1 h.2)) (HL.out hb).2.1.2 (by rw [hn1]; exact (HL.out hb).2.1.1) (by rw [← hzb]; exact Nat.le_trans (sane_len _ _) (HLB.out hb2)) HW
    rw [hn1] at this
    refine this.mono ?_
    rintro e w' ⟨z, l, A1, c1, A2, c2, hl, hz, h4, h5, h6, h7, h8, _, h9⟩
    rw [hl1] at hl
    subst hl hz
    rw [hpub] at h4
    rw [hf1] at h6
    refine ⟨A1, c1, A2, c2, ?_, ?_, h6, ?_, ?_, h9⟩
    · rw [← hub]; exact h4
    · rw [← hub]; exact h5
    · rw [← hub]; exact h7
    · rw [← hub]; exact h8)
  have KB2A : Hid (∀ W g t b A c, ck = true → b1 = false → W.heap[g]? = some (.cells #[.int .i64 p.N, .int .i64 p.F, .int .i64 p.D, .int .i64 p.Be, .int .i64 p.Rho, .int .i64 p.De, .int .i64 p.Ji, .int .i64 p.Eps, .int .i64 p.Mu, .int .i64 p.Ho, .int .i64 p.Pu, .int .i64 p.Se, .int .i64 ua.lo, .int .i64 ua.hi, .int .i64 ua.time, .bool ua.set, .int .i64 ua.held, .int .i64 ua.hops, .bool ua.good, .slice A ua.tab.length c, .int .i64 ua.st, .int .i64 ua.sn, .int .i64 ua.life, .int .i64 20, .pointer (some ⟨t, 0, none⟩)] 53 (0, 0)) → Tab W t b f1 → Tr (ndM b t g) W (fun W => pNF ta Ah1 x1.heard Ah2 x2.heard Aa sa.tab Ab sb.tab W ∧ Kd.C k72 W A ua.tab.length ua.tab) → Calls Tryz.prog 13 #[.pointer (some ⟨g, 0, none⟩), .agg #[.int .i64 x2.ticks, .slice Ah2 n2 ch2, .bool x2.ref, .int .i64 x2.reading, .bool x2.given, .slice Ax2 m2 ct2]] W fun e w' => ∃ A1 c1 A2 c2, e = .returned (.agg #[.int .i64 2, .int .i64 20, .int .i64 va.lo, .int .i64 va.hi, .int .i64 va.held, .int .i64 va.hops, .bool va.good, .bool false, .int .i64 0, .int .i64 0, .int .i64 pva, .int .i64 va.st, .int .i64 va.sn, .slice A2 va.tab.length c2]) ∧ w'.heap[g]? = some (.cells #[.int .i64 p.N, .int .i64 p.F, .int .i64 p.D, .int .i64 p.Be, .int .i64 p.Rho, .int .i64 p.De, .int .i64 p.Ji, .int .i64 p.Eps, .int .i64 p.Mu, .int .i64 p.Ho, .int .i64 p.Pu, .int .i64 p.Se, .int .i64 va.lo, .int .i64 va.hi, .int .i64 va.time, .bool va.set, .int .i64 va.held, .int .i64 va.hops, .bool va.good, .slice A1 va.tab.length c1, .int .i64 va.st, .int .i64 va.sn, .int .i64 va.life, .int .i64 20, .pointer (some ⟨t, 0, none⟩)] 53 (0, 0)) ∧ Tab w' t b f2 ∧ (OR.mk 72 2 A1 va.tab.length c1 (flL va.tab)).own W.heap.size w' ∧ (OR.mk 72 2 A2 va.tab.length c2 (flL va.tab)).own W.heap.size w' ∧ Chg (ndM b t g) W w') := Lib.hid (fun W g t b A c hc hb h1 h2 h3 => by
    have HW := hdOk_wf hk2
    have := NBeat_calls p (by have := HPD.out hc; omega) 20 ua A c g t b f1 ta x2.ticks x2.heard Ah2 ch2 x2.ref x2.reading x2.given Ax2 m2 ct2 W h1 h2 HG1.out (Foot.imp h3 (fun W h => pNF_2 h.1 h.2)) (HL.out hb).2.2.2 (by rw [hn2]; exact (HL.out hb).2.2.1) (by rw [← hua]; exact next_le hl1 (HL.out hb).2.1.2 (by rw [← hza]; exact Nat.le_trans (sane_len _ _) (HL.out hb).1)) HW
    rw [hn2] at this
    refine this.mono ?_
    rintro e w' ⟨z, l, A1, c1, A2, c2, hl, hz, h4, h5, h6, h7, h8, _, h9⟩
    rw [hl2] at hl
    subst hl hz
    rw [hpva] at h4
    rw [hf2] at h6
    refine ⟨A1, c1, A2, c2, ?_, ?_, h6, ?_, ?_, h9⟩
    · rw [← hva]; exact h4
    · rw [← hva]; exact h5
    · rw [← hva]; exact h7
    · rw [← hva]; exact h8)
  have KB2B : Hid (∀ W g t b A c, ck = true → b1 = false → b2 = false → W.heap[g]? = some (.cells #[.int .i64 p.N, .int .i64 p.F, .int .i64 p.D, .int .i64 p.Be, .int .i64 p.Rho, .int .i64 p.De, .int .i64 p.Ji, .int .i64 p.Eps, .int .i64 p.Mu, .int .i64 p.Ho, .int .i64 p.Pu, .int .i64 p.Se, .int .i64 ub.lo, .int .i64 ub.hi, .int .i64 ub.time, .bool ub.set, .int .i64 ub.held, .int .i64 ub.hops, .bool ub.good, .slice A ub.tab.length c, .int .i64 ub.st, .int .i64 ub.sn, .int .i64 ub.life, .int .i64 20, .pointer (some ⟨t, 0, none⟩)] 53 (0, 0)) → Tab W t b f1 → Tr (ndM b t g) W (fun W => pNF ta Ah1 x1.heard Ah2 x2.heard Aa sa.tab Ab sb.tab W ∧ Kd.C k72 W A ub.tab.length ub.tab) → Calls Tryz.prog 13 #[.pointer (some ⟨g, 0, none⟩), .agg #[.int .i64 x2.ticks, .slice Ah2 n2 ch2, .bool x2.ref, .int .i64 x2.reading, .bool x2.given, .slice Ax2 m2 ct2]] W fun e w' => ∃ A1 c1 A2 c2, e = .returned (.agg #[.int .i64 2, .int .i64 20, .int .i64 vb.lo, .int .i64 vb.hi, .int .i64 vb.held, .int .i64 vb.hops, .bool vb.good, .bool false, .int .i64 0, .int .i64 0, .int .i64 pvb, .int .i64 vb.st, .int .i64 vb.sn, .slice A2 vb.tab.length c2]) ∧ w'.heap[g]? = some (.cells #[.int .i64 p.N, .int .i64 p.F, .int .i64 p.D, .int .i64 p.Be, .int .i64 p.Rho, .int .i64 p.De, .int .i64 p.Ji, .int .i64 p.Eps, .int .i64 p.Mu, .int .i64 p.Ho, .int .i64 p.Pu, .int .i64 p.Se, .int .i64 vb.lo, .int .i64 vb.hi, .int .i64 vb.time, .bool vb.set, .int .i64 vb.held, .int .i64 vb.hops, .bool vb.good, .slice A1 vb.tab.length c1, .int .i64 vb.st, .int .i64 vb.sn, .int .i64 vb.life, .int .i64 20, .pointer (some ⟨t, 0, none⟩)] 53 (0, 0)) ∧ Tab w' t b f2 ∧ (OR.mk 72 2 A1 vb.tab.length c1 (flL vb.tab)).own W.heap.size w' ∧ (OR.mk 72 2 A2 vb.tab.length c2 (flL vb.tab)).own W.heap.size w' ∧ Chg (ndM b t g) W w') := Lib.hid (fun W g t b A c hc hb hb2 h1 h2 h3 => by
    have HW := hdOk_wf hk2
    have := NBeat_calls p (by have := HPD.out hc; omega) 20 ub A c g t b f1 ta x2.ticks x2.heard Ah2 ch2 x2.ref x2.reading x2.given Ax2 m2 ct2 W h1 h2 HG1.out (Foot.imp h3 (fun W h => pNF_2 h.1 h.2)) (HL.out hb).2.2.2 (by rw [hn2]; exact (HL.out hb).2.2.1) (by rw [← hub]; exact next_le hl1 (HL.out hb).2.1.2 (by rw [← hzb]; exact Nat.le_trans (sane_len _ _) (HLB.out hb2))) HW
    rw [hn2] at this
    refine this.mono ?_
    rintro e w' ⟨z, l, A1, c1, A2, c2, hl, hz, h4, h5, h6, h7, h8, _, h9⟩
    rw [hl2] at hl
    subst hl hz
    rw [hpvb] at h4
    rw [hf2] at h6
    refine ⟨A1, c1, A2, c2, ?_, ?_, h6, ?_, ?_, h9⟩
    · rw [← hvb]; exact h4
    · rw [← hvb]; exact h5
    · rw [← hvb]; exact h7
    · rw [← hvb]; exact h8)
  rw [hn1, hm1, hn2, hm2]
  clear hn1 hm1 hn2 hm2 hza hzb hl1 hl2 hf1 hf2 hua hub hva hvb hpua hpub hpva hpvb hb1 hb2 hck hr hh1 hh2 hk1 hk2 HL HLB HPD HG1
  go_enter Tryz.func5, Tryz.ntmps5
  cases ck with
  | false =>
    go_wp2_with (first
      | (go_at_call 9; (with_reducible refine (alive_calls _ (HTB.out.below H.below)).mono ?_); rintro e w' ⟨rfl, hb⟩; have H1 := H.call hb; clear hb; replace H := H1; clear H1)
      | (go_at_call 10; (with_reducible refine (KC.out _).mono ?_); rintro e w' ⟨rfl, hb⟩; have H1 := H.call hb; clear hb; replace H := H1; clear H1)
      | ((with_reducible refine gate_dst (N := 5) rfl ?_); refine nB H ?_; clear H; intro g5 w5 H)
      | ((with_reducible refine gate_dst (N := 6) rfl ?_); refine nB H ?_; clear H; intro g6 w6 H)
      | ((with_reducible refine gate_dst (N := 7) rfl ?_); refine nB H ?_; clear H; intro g7 w7 H)
      | ((with_reducible refine gate_dst (N := 8) rfl ?_); refine nB H ?_; clear H; intro g8 w8 H)
      | ((with_reducible refine gate_dst (N := 9) rfl ?_); refine nB H ?_; clear H; intro g9 w9 H)
      | ((with_reducible refine gate_dst (N := 24) rfl ?_); (try (refine gate_guard (by rfl) ?_; dsimp only)); refine nR H ?_; clear H; intro x24 w24 H)
      | ((with_reducible refine gL rfl ?_); (try (refine gate_guard (by rfl) ?_; dsimp only)); refine xL H ?_)
      | fail)
    go_ret
    exact ⟨rfl, H.below⟩
  | true =>
    cases b1 with
    | true =>
      go_wp2_with (first
        | (go_at_call 9; (with_reducible refine (alive_calls _ (HTB.out.below H.below)).mono ?_); rintro e w' ⟨rfl, hb⟩; have H1 := H.call hb; clear hb; replace H := H1; clear H1)
        | (go_at_call 10; (with_reducible refine (KC.out _).mono ?_); rintro e w' ⟨rfl, hb⟩; have H1 := H.call hb; clear hb; replace H := H1; clear H1)
        | (go_at_call 11; have HT := rowI_two (y := ⟨x1, Ah1, ch1, Ax1, ct1⟩) (z := ⟨x2, Ah2, ch2, Ax2, ct2⟩) H (by rw [HEN.out]; exact H.of At.head) HHE.out; (with_reducible refine (KGA.out _ _ HT).mono ?_); clear HT; rintro e w' ⟨rfl, hb⟩; have H1 := H.call hb; clear hb; replace H := H1; clear H1)
        | ((with_reducible refine gate_dst (N := 5) rfl ?_); refine nB H ?_; clear H; intro g5 w5 H)
        | ((with_reducible refine gate_dst (N := 6) rfl ?_); refine nB H ?_; clear H; intro g6 w6 H)
        | ((with_reducible refine gate_dst (N := 7) rfl ?_); refine nB H ?_; clear H; intro g7 w7 H)
        | ((with_reducible refine gate_dst (N := 8) rfl ?_); refine nB H ?_; clear H; intro g8 w8 H)
        | ((with_reducible refine gate_dst (N := 9) rfl ?_); refine nB H ?_; clear H; intro g9 w9 H)
        | ((with_reducible refine gate_dst (N := 24) rfl ?_); (try (refine gate_guard (by rfl) ?_; dsimp only)); refine nR H ?_; clear H; intro x24 w24 H)
        | ((with_reducible refine gL rfl ?_); (try (refine gate_guard (by rfl) ?_; dsimp only)); refine xL H ?_)
        | fail)
      go_ret
      exact ⟨rfl, H.below⟩
    | false =>
      cases b2 with
      | true =>
        go_wp2_with (first
          | (go_at_call 9; (with_reducible refine (alive_calls _ (HTB.out.below H.below)).mono ?_); rintro e w' ⟨rfl, hb⟩; have H1 := H.call hb; clear hb; replace H := H1; clear H1)
          | (go_at_call 10; (with_reducible refine (KC.out _).mono ?_); rintro e w' ⟨rfl, hb⟩; have H1 := H.call hb; clear hb; replace H := H1; clear H1)
          | (go_at_call 11; have HT := rowI_two (y := ⟨x1, Ah1, ch1, Ax1, ct1⟩) (z := ⟨x2, Ah2, ch2, Ax2, ct2⟩) H (by rw [HEN.out]; exact H.of At.head) HHE.out; (with_reducible refine (KGA.out _ _ HT).mono ?_); clear HT; rintro e w' ⟨rfl, hb⟩; have H1 := H.call hb; clear hb; replace H := H1; clear H1)
          | (go_at_call 11; (with_reducible refine (KGB.out _).mono ?_); rintro e w' ⟨rfl, hb⟩; have H1 := H.call hb; clear hb; replace H := H1; clear H1)
          | ((with_reducible refine gate_dst (N := 5) rfl ?_); refine nB H ?_; clear H; intro g5 w5 H)
          | ((with_reducible refine gate_dst (N := 6) rfl ?_); refine nB H ?_; clear H; intro g6 w6 H)
          | ((with_reducible refine gate_dst (N := 7) rfl ?_); refine nB H ?_; clear H; intro g7 w7 H)
          | ((with_reducible refine gate_dst (N := 8) rfl ?_); refine nB H ?_; clear H; intro g8 w8 H)
          | ((with_reducible refine gate_dst (N := 9) rfl ?_); refine nB H ?_; clear H; intro g9 w9 H)
          | ((with_reducible refine gate_dst (N := 24) rfl ?_); (try (refine gate_guard (by rfl) ?_; dsimp only)); refine nR H ?_; clear H; intro x24 w24 H)
          | ((with_reducible refine gL rfl ?_); (try (refine gate_guard (by rfl) ?_; dsimp only)); refine xL H ?_)
          | fail)
        go_ret
        exact ⟨rfl, H.below⟩
      | false =>
        have KNA' := Lib.hid (fun W => KNA.out W rfl)
        have KNB' := Lib.hid (fun W => KNB.out W rfl)
        have KB1A' := Lib.hid (fun W g t b A c => KB1A.out W g t b A c rfl rfl)
        have KB1B' := Lib.hid (fun W g t b A c => KB1B.out W g t b A c rfl rfl rfl)
        have KB2A' := Lib.hid (fun W g t b A c => KB2A.out W g t b A c rfl rfl)
        have KB2B' := Lib.hid (fun W g t b A c => KB2B.out W g t b A c rfl rfl rfl)
        have HFO' := Lib.hid (HFO.out rfl)
        clear KNA KNB KB1A KB1B KB2A KB2B HFO
        go_upto_region 5 with (first
          | (go_at_call 9; (with_reducible refine (alive_calls _ (HTB.out.below H.below)).mono ?_); rintro e w' ⟨rfl, hb⟩; have H1 := H.call hb; clear hb; replace H := H1; clear H1)
          | (go_at_call 10; (with_reducible refine (KC.out _).mono ?_); rintro e w' ⟨rfl, hb⟩; have H1 := H.call hb; clear hb; replace H := H1; clear H1)
          | (go_at_call 11; have HT := rowI_two (y := ⟨x1, Ah1, ch1, Ax1, ct1⟩) (z := ⟨x2, Ah2, ch2, Ax2, ct2⟩) H (by rw [HEN.out]; exact H.of At.head) HHE.out; (with_reducible refine (KGA.out _ _ HT).mono ?_); clear HT; rintro e w' ⟨rfl, hb⟩; have H1 := H.call hb; clear hb; replace H := H1; clear H1)
          | (go_at_call 11; (with_reducible refine (KGB.out _).mono ?_); rintro e w' ⟨rfl, hb⟩; have H1 := H.call hb; clear hb; replace H := H1; clear H1)
          | ((with_reducible refine gate_dst (N := 5) rfl ?_); refine nB H ?_; clear H; intro g5 w5 H)
          | ((with_reducible refine gate_dst (N := 6) rfl ?_); refine nB H ?_; clear H; intro g6 w6 H)
          | ((with_reducible refine gate_dst (N := 7) rfl ?_); refine nB H ?_; clear H; intro g7 w7 H)
          | ((with_reducible refine gate_dst (N := 8) rfl ?_); refine nB H ?_; clear H; intro g8 w8 H)
          | ((with_reducible refine gate_dst (N := 9) rfl ?_); refine nB H ?_; clear H; intro g9 w9 H)
          | ((with_reducible refine gate_dst (N := 24) rfl ?_); (try (refine gate_guard (by rfl) ?_; dsimp only)); refine nR H ?_; clear H; intro x24 w24 H)
          | ((with_reducible refine gL rfl ?_); (try (refine gate_guard (by rfl) ?_; dsimp only)); refine xL H ?_)
          | fail)
        clear KC KGA KGB HEN HHE
        refine ro_start (Frs _ _ _ _ _) [] [0, 1, 3, 4, 2, 5, 6, 7] 8 (by kernel_rfl) (by rfl) (by simp only [pickR, List.getElem?_cons_succ, List.getElem?_cons_zero]; rfl) (by rfl) (H.drewN 1) (fun HS => ?_)
        have H1 : Fr _ _ _ _ _ _ := HS
        clear HS H
        have H := H1
        clear H1
        repeat ((first
          | ((with_reducible refine rz_call (f := 12) rfl ?_); refine ro_call 12 _ rfl (by kernel_rfl) (by kernel_rfl) (by rfl) Tryz.func12 (by kernel_rfl) rfl (by simp only [List.map_toArray, List.map_cons, List.map_nil]; rfl) ?_; (refine (KNB'.out _ HB.now.1).mono ?_); rintro e w' ⟨h, t2, b2, A2, c2, rfl, hl, hg, hT, ho, hB⟩; have HB1 := HB.call hB; refine ⟨_, rfl, HB1, fun _ => ?_⟩; obtain ⟨o2, hO, H2⟩ := Fr.node H hB hl hg hT ho rfl; have HOB := Lib.hid hO; clear hl hg hT ho hB hO HB1 HB H; have H := H2; clear H2; (try simp only [Act.put, lsA, lsZ, lsS, Nat.reduceAdd]))
          | ((with_reducible refine rz_call (f := 12) rfl ?_); refine ro_call 12 _ rfl (by kernel_rfl) (by kernel_rfl) (by rfl) Tryz.func12 (by kernel_rfl) rfl (by simp only [List.map_toArray, List.map_cons, List.map_nil]; rfl) ?_; (refine (KNA'.out _ H.now.1).mono ?_); rintro e w' ⟨g, t, b, A1, c1, rfl, hl, hg, hT, ho, hB⟩; have HB1 := H.call hB; refine ⟨_, rfl, HB1, fun _ => ?_⟩; obtain ⟨o, hO, H2⟩ := Fr.node H hB hl hg hT ho rfl; have HOA := Lib.hid hO; have HB := HB1; clear hl hg hT ho hB hO HB1 H; have H := H2; clear H2; (try simp only [Act.put, lsA, lsZ, lsS, Nat.reduceAdd]))
          | ((with_reducible refine rz_load rfl ?_); refine zL H ?_)
          | (refine zO ?_)
          | (refine zP ?_)); (try simp only [Act.put, lsA, lsZ, lsS, Nat.reduceAdd]))
        refine ro_done (by kernel_rfl) ?_
        clear KNA' KNB'
        go_upto_region 7 with (first
          | (go_at_call 13; have HT0 := Fr.trN3 (b := b) (t := t) (g := g) H (Of_at (by repeat (first | exact At.head | apply At.tail))) (Of_at (by repeat (first | exact At.head | apply At.tail))) (Of_at (by repeat (first | exact At.head | apply At.tail))); have HT := Foot.imp HT0 (fun W h => And.intro h.1 (own_Cn (l := za.tab) (own_val (owns_at h.2 (r := OR.mk 72 2 A1 za.tab.length c1 (flL za.tab)) (by simp only [List.mem_cons, true_or, or_true]))) rfl)); clear HT0; have HTb := HOA.out.tab (H.of (by repeat (first | exact At.head | apply At.tail))) (H.of (by repeat (first | exact At.head | apply At.tail))); (with_reducible refine (Calls.mono (KB1A'.out _ g t b A1 c1 (H.of (by repeat (first | exact At.head | apply At.tail))) HTb HT) ?_)); clear HT HTb HOA; rintro e w' ⟨A3, c3, A9, c9, rfl, hg, hT, h1, h2, hc⟩; obtain ⟨q1, bo, q2, hO, _⟩ := Tab.obj hT; have H1 := Fr.beatN H (by repeat (first | exact At.head | apply At.tail)) (by repeat (first | exact At.head | apply At.tail)) (by repeat (first | exact At.head | apply At.tail)) hg q2 q1 hc h1 h2; have HOA := Lib.hid hO; clear hg hT h1 h2 hc q1 q2 hO H; have H := H1; clear H1)
          | ((with_reducible refine gL rfl ?_); refine xL H ?_)
          | fail)
        go_upto_region 8 with (first
          | (go_at_call 13; have HT0 := Fr.trN3 (b := b2) (t := t2) (g := h) H (Of_at (by repeat (first | exact At.head | apply At.tail))) (Of_at (by repeat (first | exact At.head | apply At.tail))) (Of_at (by repeat (first | exact At.head | apply At.tail))); have HT := Foot.imp HT0 (fun W h => And.intro h.1 (own_Cn (l := zb.tab) (own_val (owns_at h.2 (r := OR.mk 72 2 A2 zb.tab.length c2 (flL zb.tab)) (by simp only [List.mem_cons, true_or, or_true]))) rfl)); clear HT0; have HTb := HOB.out.tab (H.of (by repeat (first | exact At.head | apply At.tail))) (H.of (by repeat (first | exact At.head | apply At.tail))); (with_reducible refine (Calls.mono (KB1B'.out _ h t2 b2 A2 c2 (H.of (by repeat (first | exact At.head | apply At.tail))) HTb HT) ?_)); clear HT HTb HOB; rintro e w' ⟨A5, c5, A9, c9, rfl, hg, hT, h1, h2, hc⟩; obtain ⟨q1, b2o, q2, hO, _⟩ := Tab.obj hT; have H1 := Fr.beatN H (by repeat (first | exact At.head | apply At.tail)) (by repeat (first | exact At.head | apply At.tail)) (by repeat (first | exact At.head | apply At.tail)) hg q2 q1 hc h1 h2; have HOB := Lib.hid hO; clear hg hT h1 h2 hc q1 q2 hO H; have H := H1; clear H1)
          | ((with_reducible refine gL rfl ?_); refine xL H ?_)
          | fail)
        clear KB1A' KB1B'
        go_cut [13, 14] (fun v13 v14 wc => ∃ (g13 g14 : Nat) (A7 A8 A9 A10 : Option Addr) (c7 c8 c9 c10 : Nat), v13 = .pointer (some ⟨g13, 0, none⟩) ∧ v14 = .pointer (some ⟨g14, 0, none⟩) ∧ Fr (fun _ => False) (fun _ => False) w wc [(g14, .cells #[.int .i64 2, .int .i64 20, .int .i64 vb.lo, .int .i64 vb.hi, .int .i64 vb.held, .int .i64 vb.hops, .bool vb.good, .bool false, .int .i64 0, .int .i64 0, .int .i64 pvb, .int .i64 vb.st, .int .i64 vb.sn, .slice A10 vb.tab.length c10] 43 (0, 0)), (g13, .cells #[.int .i64 2, .int .i64 20, .int .i64 va.lo, .int .i64 va.hi, .int .i64 va.held, .int .i64 va.hops, .bool va.good, .bool false, .int .i64 0, .int .i64 0, .int .i64 pva, .int .i64 va.st, .int .i64 va.sn, .slice A8 va.tab.length c8] 43 (0, 0)), (h, (.cells #[.int .i64 p.N, .int .i64 p.F, .int .i64 p.D, .int .i64 p.Be, .int .i64 p.Rho, .int .i64 p.De, .int .i64 p.Ji, .int .i64 p.Eps, .int .i64 p.Mu, .int .i64 p.Ho, .int .i64 p.Pu, .int .i64 p.Se, .int .i64 vb.lo, .int .i64 vb.hi, .int .i64 vb.time, .bool vb.set, .int .i64 vb.held, .int .i64 vb.hops, .bool vb.good, .slice A9 vb.tab.length c9, .int .i64 vb.st, .int .i64 vb.sn, .int .i64 vb.life, .int .i64 20, .pointer (some ⟨t2, 0, none⟩)] 53 (0, 0))), (g, (.cells #[.int .i64 p.N, .int .i64 p.F, .int .i64 p.D, .int .i64 p.Be, .int .i64 p.Rho, .int .i64 p.De, .int .i64 p.Ji, .int .i64 p.Eps, .int .i64 p.Mu, .int .i64 p.Ho, .int .i64 p.Pu, .int .i64 p.Se, .int .i64 va.lo, .int .i64 va.hi, .int .i64 va.time, .bool va.set, .int .i64 va.held, .int .i64 va.hops, .bool va.good, .slice A7 va.tab.length c7, .int .i64 va.st, .int .i64 va.sn, .int .i64 va.life, .int .i64 20, .pointer (some ⟨t, 0, none⟩)] 53 (0, 0))), (g5, .cells #[.int .i64 p.N, .int .i64 p.F, .int .i64 p.D, .int .i64 p.Be, .int .i64 p.Rho, .int .i64 p.De, .int .i64 p.Ji, .int .i64 p.Eps, .int .i64 p.Mu, .int .i64 p.Ho, .int .i64 p.Pu, .int .i64 p.Se] 23 (0, 0))] (fun _ => True))
        case first =>
          refine ro_start (Frs (fun _ => False) (fun _ => False) w [(g9, .cells #[.int .i64 x2.ticks, .slice Ah2 n2 ch2, .bool x2.ref, .int .i64 x2.reading, .bool x2.given, .slice Ax2 m2 ct2] 38 (0, 0))] (pNF ta Ah1 x1.heard Ah2 x2.heard Aa sa.tab Ab sb.tab)) [8, 9] [0, 1, 3, 4, 2, 5, 6, 7, 8, 9] 10 (by kernel_rfl) (by rfl) (by simp only [pickR, List.getElem?_cons_succ, List.getElem?_cons_zero]; rfl) (by rfl) (Fr.only (H.drewN 1) (by repeat (first | exact At.head | apply At.tail)) (fun _ h => h.1)) (fun HS0 => ?_)
          have HS : Fr _ _ _ _ _ _ := HS0
          have H1 := Fr.front (g := g5) (H.drewN 1) (by repeat (first | exact Take.head | apply Take.tail))
          have H2 := Fr.front (g := g9) H1 (by repeat (first | exact Take.head | apply Take.tail))
          have H3 := Fr.front (g := g) H2 (by repeat (first | exact Take.head | apply Take.tail))
          have H4 := Fr.front (g := t) H3 (by repeat (first | exact Take.head | apply Take.tail))
          have H5 := Fr.front (g := b) H4 (by repeat (first | exact Take.head | apply Take.tail))
          have H6 := Fr.front (g := h) H5 (by repeat (first | exact Take.head | apply Take.tail))
          have H7 := Fr.front (g := t2) H6 (by repeat (first | exact Take.head | apply Take.tail))
          have H8 := Fr.front (g := b2) H7 (by repeat (first | exact Take.head | apply Take.tail))
          have H9 := Fr.sublist H8 (List.Sublist.cons_cons _ (List.Sublist.cons_cons _ (List.Sublist.cons_cons _ (List.Sublist.cons_cons _ (List.Sublist.cons_cons _ (List.Sublist.cons_cons _ (List.Sublist.cons_cons _ (List.Sublist.cons_cons _ (List.nil_sublist _)))))))))
          clear HS0 H H1 H2 H3 H4 H5 H6 H7 H8
          have H := H9
          clear H9
          repeat (first
            | ((with_reducible refine rz_load (ty := 38) rfl ?_); refine ro_sub HS (m := 6) rfl (by kernel_rfl) (fun _ _ _ h => h) (by rfl) (by rfl) (by repeat (first | exact At.head | apply At.tail)) Tryz.underlying38 rfl (by kernel_rfl) (by simp only [List.toList_toArray, List.drop_succ_cons, List.drop_zero, List.take_succ_cons, List.take_zero]; rfl) (by rfl) ?_; (try simp only [Act.put, lsA, lsZ, lsS, Nat.reduceAdd]))
            | (refine ro_pure (by kernel_rfl) (fun _ _ _ h => h) (by rfl) (fun W K hK => by go_simp; exact hK.out) ?_; (try simp only [Act.put, lsA, lsZ, lsS, Nat.reduceAdd])))
          refine ro_two (u1 := undef) (u2 := undef) (x0 := undef) (y0 := undef) (z1 := #[.int .i64 0, .int .i64 0, .int .i64 0, .int .i64 0, .int .i64 0, .int .i64 0, .bool false, .bool false, .int .i64 0, .int .i64 0, .int .i64 0, .int .i64 0, .int .i64 0, .slice none 0 0]) (z2 := #[.int .i64 0, .int .i64 0, .int .i64 0, .int .i64 0, .int .i64 0, .int .i64 0, .bool false, .bool false, .int .i64 0, .int .i64 0, .int .i64 0, .int .i64 0, .int .i64 0, .slice none 0 0]) (t1 := 43) (t2 := 43) 45 48 13 14 (fun v bl => ∃ (A7 : Option Addr) (c7 : Nat) (A8 : Option Addr) (c8 : Nat) (o1 : Obj), v = .agg #[.int .i64 2, .int .i64 20, .int .i64 va.lo, .int .i64 va.hi, .int .i64 va.held, .int .i64 va.hops, .bool va.good, .bool false, .int .i64 0, .int .i64 0, .int .i64 pva, .int .i64 va.st, .int .i64 va.sn, .slice A8 va.tab.length c8] ∧ bl = [(b2, b2o), (t2, tabC b2), (h, (.cells #[.int .i64 p.N, .int .i64 p.F, .int .i64 p.D, .int .i64 p.Be, .int .i64 p.Rho, .int .i64 p.De, .int .i64 p.Ji, .int .i64 p.Eps, .int .i64 p.Mu, .int .i64 p.Ho, .int .i64 p.Pu, .int .i64 p.Se, .int .i64 ub.lo, .int .i64 ub.hi, .int .i64 ub.time, .bool ub.set, .int .i64 ub.held, .int .i64 ub.hops, .bool ub.good, .slice A5 ub.tab.length c5, .int .i64 ub.st, .int .i64 ub.sn, .int .i64 ub.life, .int .i64 20, .pointer (some ⟨t2, 0, none⟩)] 53 (0, 0))), (b, o1), (t, tabC b), (g, (.cells #[.int .i64 p.N, .int .i64 p.F, .int .i64 p.D, .int .i64 p.Be, .int .i64 p.Rho, .int .i64 p.De, .int .i64 p.Ji, .int .i64 p.Eps, .int .i64 p.Mu, .int .i64 p.Ho, .int .i64 p.Pu, .int .i64 p.Se, .int .i64 va.lo, .int .i64 va.hi, .int .i64 va.time, .bool va.set, .int .i64 va.held, .int .i64 va.hops, .bool va.good, .slice A7 va.tab.length c7, .int .i64 va.st, .int .i64 va.sn, .int .i64 va.life, .int .i64 20, .pointer (some ⟨t, 0, none⟩)] 53 (0, 0))), (g9, .cells #[.int .i64 x2.ticks, .slice Ah2 n2 ch2, .bool x2.ref, .int .i64 x2.reading, .bool x2.given, .slice Ax2 m2 ct2] 38 (0, 0)), (g5, .cells #[.int .i64 p.N, .int .i64 p.F, .int .i64 p.D, .int .i64 p.Be, .int .i64 p.Rho, .int .i64 p.De, .int .i64 p.Ji, .int .i64 p.Eps, .int .i64 p.Mu, .int .i64 p.Ho, .int .i64 p.Pu, .int .i64 p.Se] 23 (0, 0))]) (fun v v2 bl => ∃ (A7 : Option Addr) (c7 : Nat) (A8 : Option Addr) (c8 : Nat) (o1 : Obj) (A9 : Option Addr) (c9 : Nat) (A10 : Option Addr) (c10 : Nat) (o2 : Obj), v = .agg #[.int .i64 2, .int .i64 20, .int .i64 va.lo, .int .i64 va.hi, .int .i64 va.held, .int .i64 va.hops, .bool va.good, .bool false, .int .i64 0, .int .i64 0, .int .i64 pva, .int .i64 va.st, .int .i64 va.sn, .slice A8 va.tab.length c8] ∧ v2 = .agg #[.int .i64 2, .int .i64 20, .int .i64 vb.lo, .int .i64 vb.hi, .int .i64 vb.held, .int .i64 vb.hops, .bool vb.good, .bool false, .int .i64 0, .int .i64 0, .int .i64 pvb, .int .i64 vb.st, .int .i64 vb.sn, .slice A10 vb.tab.length c10] ∧ bl = [(b2, o2), (t2, tabC b2), (h, (.cells #[.int .i64 p.N, .int .i64 p.F, .int .i64 p.D, .int .i64 p.Be, .int .i64 p.Rho, .int .i64 p.De, .int .i64 p.Ji, .int .i64 p.Eps, .int .i64 p.Mu, .int .i64 p.Ho, .int .i64 p.Pu, .int .i64 p.Se, .int .i64 vb.lo, .int .i64 vb.hi, .int .i64 vb.time, .bool vb.set, .int .i64 vb.held, .int .i64 vb.hops, .bool vb.good, .slice A9 vb.tab.length c9, .int .i64 vb.st, .int .i64 vb.sn, .int .i64 vb.life, .int .i64 20, .pointer (some ⟨t2, 0, none⟩)] 53 (0, 0))), (b, o1), (t, tabC b), (g, (.cells #[.int .i64 p.N, .int .i64 p.F, .int .i64 p.D, .int .i64 p.Be, .int .i64 p.Rho, .int .i64 p.De, .int .i64 p.Ji, .int .i64 p.Eps, .int .i64 p.Mu, .int .i64 p.Ho, .int .i64 p.Pu, .int .i64 p.Se, .int .i64 va.lo, .int .i64 va.hi, .int .i64 va.time, .bool va.set, .int .i64 va.held, .int .i64 va.hops, .bool va.good, .slice A7 va.tab.length c7, .int .i64 va.st, .int .i64 va.sn, .int .i64 va.life, .int .i64 20, .pointer (some ⟨t, 0, none⟩)] 53 (0, 0))), (g9, .cells #[.int .i64 x2.ticks, .slice Ah2 n2 ch2, .bool x2.ref, .int .i64 x2.reading, .bool x2.given, .slice Ax2 m2 ct2] 38 (0, 0)), (g5, .cells #[.int .i64 p.N, .int .i64 p.F, .int .i64 p.D, .int .i64 p.Be, .int .i64 p.Rho, .int .i64 p.De, .int .i64 p.Ji, .int .i64 p.Eps, .int .i64 p.Mu, .int .i64 p.Ho, .int .i64 p.Pu, .int .i64 p.Se] 23 (0, 0))]) H (by kernel_rfl) rfl (by decide) (by intros; simp only [acT, Act.put, lsA, lsZ, lsS])
            (by intros; simp only [acT, Act.put, lsA, lsZ, lsS]; rfl) (by intros; simp only [acT, Act.put, lsA, lsZ, lsS]; rfl) (by intros; simp only [acT, Act.put, lsA, lsZ, lsS]; rfl) (by intros; simp only [acT, Act.put, lsA, lsZ, lsS]; rfl)
            (by intros; simp only [acT, Act.put, lsA, lsZ, lsS]) (by intros; simp only [acT, Act.put, lsA, lsZ, lsS]) (by intros; simp only [acT, Act.put, lsA, lsZ, lsS]) (by intros; simp only [acT, Act.put, lsA, lsZ, lsS])
            (fun v1 v2 Y W K hK => by go_simp; exact hK.out) (fun v1 v2 X W K hK => by go_simp; exact hK.out)
            (fun E W H => Fr.only H (At.app (by repeat (first | exact At.head | apply At.tail)) E) (fun _ h => h.1)) (by rintro v1 bl1 ⟨A7, c7, A8, c8, o1, rfl, rfl⟩ E W H; exact Fr.only H (At.app (by repeat (first | exact At.head | apply At.tail)) E) (fun _ h => h.1)) (by rintro v1 v2 bl1 ⟨A7, c7, A8, c8, o1, A9, c9, A10, c10, o2, rfl, rfl, rfl⟩ E W H; exact Fr.only H (At.app (by repeat (first | exact At.head | apply At.tail)) E) (fun _ h => h.1))
            ?k1 ?k2 ?hend
          case k1 =>
            intro E W X Y K H hK
            have HT0 := Fr.trN3 (b := b) (t := t) (g := g) H (Of_at (At.app (by repeat (first | exact At.head | apply At.tail)) E)) (Of_at (At.app (by repeat (first | exact At.head | apply At.tail)) E)) (Of_at (At.app (by repeat (first | exact At.head | apply At.tail)) E))
            have HT := Foot.imp HT0 (fun W h => And.intro h.1 (own_Cn (l := ua.tab) (own_val (owns_at h.2 (r := OR.mk 72 2 A3 ua.tab.length c3 (flL ua.tab)) (by simp only [List.mem_cons, true_or, or_true]))) rfl))
            have HTb := HOA.out.tab (H.of (At.app (by repeat (first | exact At.head | apply At.tail)) E)) (H.of (At.app (by repeat (first | exact At.head | apply At.tail)) E))
            refine wp_enter 13 _ rfl Tryz.func13 (by kernel_rfl) rfl (by simp only [acT, Act.put, lsA, lsZ, lsS, List.map_toArray, List.map_cons, List.map_nil]; rfl) ?_
            refine (KB2A'.out W g t b A3 c3 (H.of (At.app (by repeat (first | exact At.head | apply At.tail)) E)) HTb HT).mono ?_
            rintro e w' ⟨A7, c7, A8, c8, rfl, hg, hT, h1, h2, hc⟩
            obtain ⟨q1, oo, q2, hO, _⟩ := Tab.obj hT
            have H1 := (Fr.beatN H (At.app (by repeat (first | exact At.head | apply At.tail)) E) (At.app (by repeat (first | exact At.head | apply At.tail)) E) (At.app (by repeat (first | exact At.head | apply At.tail)) E) hg q2 q1 hc h1 h2).imp (fun W h => And.intro h.1 (owns_cons.1 (owns_cons.1 h.2).2).2)
            exact ⟨_, rfl, hK _ _ _ ⟨A7, c7, A8, c8, oo, rfl, rfl⟩ H1⟩
          case k2 =>
            rintro v1 bl1 ⟨A7, c7, A8, c8, o1, rfl, rfl⟩ E W X Y K H hK
            have HT0 := Fr.trN3 (b := b2) (t := t2) (g := h) H (Of_at (At.app (by repeat (first | exact At.head | apply At.tail)) E)) (Of_at (At.app (by repeat (first | exact At.head | apply At.tail)) E)) (Of_at (At.app (by repeat (first | exact At.head | apply At.tail)) E))
            have HT := Foot.imp HT0 (fun W h => And.intro h.1 (own_Cn (l := ub.tab) (own_val (owns_at h.2 (r := OR.mk 72 2 A5 ub.tab.length c5 (flL ub.tab)) (by simp only [List.mem_cons, true_or, or_true]))) rfl))
            have HTb := HOB.out.tab (H.of (At.app (by repeat (first | exact At.head | apply At.tail)) E)) (H.of (At.app (by repeat (first | exact At.head | apply At.tail)) E))
            refine wp_enter 13 _ rfl Tryz.func13 (by kernel_rfl) rfl (by simp only [acT, Act.put, lsA, lsZ, lsS, List.map_toArray, List.map_cons, List.map_nil]; rfl) ?_
            refine (KB2B'.out W h t2 b2 A5 c5 (H.of (At.app (by repeat (first | exact At.head | apply At.tail)) E)) HTb HT).mono ?_
            rintro e w' ⟨A9, c9, A10, c10, rfl, hg, hT, h1, h2, hc⟩
            obtain ⟨q1, oo, q2, hO, _⟩ := Tab.obj hT
            have H1 := (Fr.beatN H (At.app (by repeat (first | exact At.head | apply At.tail)) E) (At.app (by repeat (first | exact At.head | apply At.tail)) E) (At.app (by repeat (first | exact At.head | apply At.tail)) E) hg q2 q1 hc h1 h2).imp (fun W h => And.intro h.1 (owns_cons.1 (owns_cons.1 h.2).2).2)
            exact ⟨_, rfl, hK _ _ _ ⟨A7, c7, A8, c8, o1, A9, c9, A10, c10, oo, rfl, rfl, rfl⟩ H1⟩
          case hend =>
            rintro v1 v2 bl2 g13 g14 W ⟨A7, c7, A8, c8, o1, A9, c9, A10, c10, o2, rfl, rfl, rfl⟩ HE
            clear H
            have H := HE
            clear HE
            unfold ptrT
            simp only [acT, Act.put, lsA, lsZ, lsS]
            repeat (first
              | ((with_reducible refine rz_store (ty := 43) rfl ?_); refine ro_set H (u := .agg (List.toArray _)) rfl rfl (by kernel_rfl) (by kernel_rfl) (by rfl) (by rfl) (by rfl) (by repeat (first | exact At.head | apply At.tail)) (Nat.le_of_ble_eq_true rfl) (by simp only [Value.cells, List.take_succ_cons, List.take_zero, List.drop_succ_cons, List.drop_zero, List.cons_append, List.nil_append, List.size_toArray, List.length_cons, List.length_nil, Nat.reduceAdd, List.append_nil, List.drop_nil, List.take_nil, List.toList_toArray]; rfl) (by kernel_rfl) (by simp [Value.cells, Value.oneCell']) ?_; intro w1 H1; replace H := H1; clear H1; (try simp only [Act.put, lsA, lsZ, lsS, Nat.reduceAdd])))
            refine ro_done (by kernel_rfl) ?_
            go_wp2
            go_meet
            case rel =>
              have H1 := Fr.front (g := g5) H (by repeat (first | exact Take.head | apply Take.tail))
              have H2 := Fr.front (g := g) H1 (by repeat (first | exact Take.head | apply Take.tail))
              have H3 := Fr.front (g := h) H2 (by repeat (first | exact Take.head | apply Take.tail))
              have H4 := Fr.front (g := g13) H3 (by repeat (first | exact Take.head | apply Take.tail))
              have H5 := Fr.front (g := g14) H4 (by repeat (first | exact Take.head | apply Take.tail))
              exact ⟨g13, g14, A7, A8, A9, A10, c7, c8, c9, c10, rfl, rfl, (Fr.sublist H5 (List.Sublist.cons_cons _ (List.Sublist.cons_cons _ (List.Sublist.cons_cons _ (List.Sublist.cons_cons _ (List.Sublist.cons_cons _ (List.nil_sublist _))))))).imp (fun _ _ => trivial)⟩
        case rest =>
          obtain ⟨g13, g14, A7, A8, A9, A10, c7, c8, c9, c10, rfl, rfl, H1⟩ := hcut
          clear H
          have H := H1
          clear H1
          clear KB2A' KB2B' HOA HOB
          obtain ⟨he, hf⟩ := HFO'.out
          by_cases hq : p.D < va.hops
          · have hd : decide (p.D < vb.hops) = true := decide_eq_true (he ▸ hq)
            have hz : (vb.hops == vb.hops) = true := by simp
            rw [he] at H
            clear he hf hq HFO'
            go_upto_region 9 with fail
            refine ro_start (Frs _ _ _ _ _) [] [0, 1, 2, 3, 4, 5, 6, 7, 8, 9, 10, 11, 12, 13, 14, 15, 16, 17, 18, 19] 20 (by kernel_rfl) (by rfl) (by simp only [pickR, List.getElem?_cons_succ, List.getElem?_cons_zero]; rfl) (by rfl) (H.drewN 1) (fun HS => ?_)
            have H1 : Fr _ _ _ _ _ _ := HS
            clear HS H
            have H := H1
            clear H1
            repeat ((first
              | ((with_reducible refine rz_load rfl ?_); refine zL H ?_)
              | (refine zO ?_)
              | (refine zP ?_)); (try simp only [Act.put, lsA, lsZ, lsS, Nat.reduceAdd]))
            refine ro_done (by kernel_rfl) ?_
            go_wp2
            go_upto_region 10 with fail
            refine ro_start (Frs _ _ _ _ _) [] [0, 1, 2, 3, 4, 5, 6, 7, 8, 9, 10, 11, 12, 13] 14 (by kernel_rfl) (by rfl) (by simp only [pickR, List.getElem?_cons_succ, List.getElem?_cons_zero]; rfl) (by rfl) (H.drewN 1) (fun HS => ?_)
            have H1 : Fr _ _ _ _ _ _ := HS
            clear HS H
            have H := H1
            clear H1
            repeat ((first
              | ((with_reducible refine rz_load rfl ?_); refine zL H ?_)
              | (refine zO ?_)
              | (refine zP ?_)); (try simp only [Act.put, lsA, lsZ, lsS, Nat.reduceAdd]))
            refine ro_done (by kernel_rfl) ?_
            go_wp2
            go_ret
            exact ⟨rfl, H.below⟩
          · have hd : decide (p.D < vb.hops) = false := decide_eq_false (he ▸ hq)
            obtain ⟨e1, e2, e3, e4, e5⟩ := hf (by omega)
            have hz0 : (vb.hops == vb.hops) = true := by simp
            have hz1 : (vb.lo == vb.lo) = true := by simp
            have hz2 : (vb.hi == vb.hi) = true := by simp
            have hz3 : (vb.held == vb.held) = true := by simp
            rw [he, e1, e2, e3, e4, e5] at H
            clear he hf hq HFO' e1 e2 e3 e4 e5
            go_upto_region 9 with fail
            refine ro_start (Frs _ _ _ _ _) [] [0, 1, 2, 3, 4, 5, 6, 7, 8, 9, 10, 11, 12, 13, 14, 15, 16, 17, 18, 19] 20 (by kernel_rfl) (by rfl) (by simp only [pickR, List.getElem?_cons_succ, List.getElem?_cons_zero]; rfl) (by rfl) (H.drewN 1) (fun HS => ?_)
            have H1 : Fr _ _ _ _ _ _ := HS
            clear HS H
            have H := H1
            clear H1
            repeat ((first
              | ((with_reducible refine rz_load rfl ?_); refine zL H ?_)
              | (refine zO ?_)
              | (refine zP ?_)); (try simp only [Act.put, lsA, lsZ, lsS, Nat.reduceAdd]))
            refine ro_done (by kernel_rfl) ?_
            go_wp2_with (first
              | ((with_reducible refine gL rfl ?_); (try (refine gate_guard (by rfl) ?_; dsimp only)); refine xL H ?_)
              | fail)
            go_ret
            exact ⟨rfl, H.below⟩
end Go.Proofs.YtdaohldmojpihaaGreatDoor.G

namespace Go.Proofs.YtdaohldmojpihaaGreatDoor.G
open Go.RowKit Go.Proofs.YtdaohldmojpihaaGreatDoorW.PrintWords Go.Proofs.YtdaohldmojpihaaGreatDoorW.PrintLast Go.Proofs.YtdaohldmojpihaaGreatDoorW.PrintMore Go.Proofs.YtdaohldmojpihaaGreatDoorPl Go.Proofs.YtdaohldmojpihaaGreatDoorEm Go.Proofs.YtdaohldmojpihaaGreatDoorKr Go.Proofs.YtdaohldmojpihaaGreatDoorRz Go.Proofs.YtdaohldmojpihaaGreatDoor.X
set_option linter.unusedVariables false
theorem RowH.tr {w : World} {A : Option Addr} {l : List Hd} (h : RowH w A l) : Tr (fun _ => False) w (fun W => RowH W A l) := by
  intro W' hW k hk
  obtain ⟨ad, e, hc⟩ := h k hk
  refine ⟨ad, e, fun j u hu => ?_⟩
  have h5 := hc j u hu
  have h6 := World.block_lt_of_cell? w _ h5
  have hb := hW _ (fun q => q) h6
  rw [show W'.cell? ((ad.add (k * 15)).add j) = w.cell? ((ad.add (k * 15)).add j) by simp [World.cell?, hb]]
  exact h5
theorem wfI {x : Int} (h : (Lit.int .i64 x).wf = true) : -9223372036854775808 ≤ x ∧ x ≤ 9223372036854775807 := by
  have e1 : IntKind.i64.min = -9223372036854775808 := rfl
  have e2 : IntKind.i64.max = 9223372036854775807 := rfl
  simp [Lit.wf, e1, e2] at h
  omega
open Classical in
noncomputable def taOf (w : World) (A : Option Addr) (n : Nat) : List Lp := if h : ∃ l, Kd.C k72 w A n l ∧ ∀ e ∈ l, Vt.okE e then h.choose else []
theorem taOf_spec {w : World} {A : Option Addr} {n : Nat} {l : List Lp} (h : Kd.C k72 w A n l) (ho : ∀ e ∈ l, Vt.okE e) : Kd.C k72 w A n (taOf w A n) ∧ ∀ e ∈ taOf w A n, Vt.okE e := by
  have hx : ∃ l, Kd.C k72 w A n l ∧ ∀ e ∈ l, Vt.okE e := ⟨l, h, ho⟩
  unfold taOf
  rw [dif_pos hx]
  exact hx.choose_spec
theorem heard_in {w : World} {A : Option Addr} {l : List Hrd} (h : Kd.C k45 w A l.length l) (hw : (l.length ≤ maxLen ∧ l.length * 128 ≤ 140737488351232 ∧ ∀ x0_ ∈ l, (((Lit.int .i64 x0_.f0.f0).wf = true ∧ (Lit.int .i64 x0_.f0.f1).wf = true ∧ ((Lit.int .i64 x0_.f0.f2.f0).wf = true ∧ (Lit.int .i64 x0_.f0.f2.f1).wf = true) ∧ (Lit.int .i64 x0_.f0.f3).wf = true ∧ (Lit.int .i64 x0_.f0.f4).wf = true ∧ True ∧ True ∧ ((Lit.int .i64 x0_.f0.f7.f0).wf = true ∧ (Lit.int .i64 x0_.f0.f7.f1).wf = true) ∧ (Lit.int .i64 x0_.f0.f8).wf = true ∧ ((Lit.int .i64 x0_.f0.f9.f0).wf = true ∧ (Lit.int .i64 x0_.f0.f9.f1).wf = true) ∧ (x0_.f0.f10.length ≤ maxLen ∧ x0_.f0.f10.length * 16 ≤ 140737488351232 ∧ ∀ x1_ ∈ x0_.f0.f10, ((Lit.int .i64 x1_.f0).wf = true ∧ (Lit.int .i64 x1_.f1).wf = true))) ∧ (Lit.int .i64 x0_.f1).wf = true))) : ∃ hs : List Hd, hs.length = l.length ∧ RowH w A hs ∧ TbW (tbH (taOf w)) hs w ∧ hdOk (taOf w) hs := by
  obtain ⟨hs, hlen, hrow, hR⟩ := rowH_in h
  have key : ∀ x ∈ hs, Kd.C k72 w x.A x.n (taOf w x.A x.n) ∧ (∀ e ∈ taOf w x.A x.n, Vt.okE e) ∧ x.n ≤ x.c ∧ -9223372036854775808 ≤ x.frm ∧ x.frm ≤ 9223372036854775807 := fun x hx => by
    obtain ⟨k, hk, rfl⟩ := List.getElem_of_mem hx
    have hl : k < l.length := by omega
    obtain ⟨A1, c1, e, hc, hC⟩ := hrow k hk hl
    have hm := hw.2.2 l[k] (List.getElem_mem hl)
    have ht : ∀ y ∈ l[k].f0.f10, Vt.okE y := fun y hy => by
      have := hm.1.2.2.2.2.2.2.2.2.2.2.2.2 y hy
      exact ⟨wfI this.1, wfI this.2⟩
    have sp := taOf_spec hC ht
    rw [e]
    exact ⟨sp.1, sp.2, hc, wfI hm.1.2.1⟩
  refine ⟨hs, hlen, hR, fun x hx => (key x hx).1, fun x hx => ?_⟩
  obtain ⟨k1, k2, k3, k4⟩ := key x hx
  exact ⟨⟨k1.1.symm, k3, k2⟩, k4⟩
theorem TbW.tr {tb : Hd → List Lp} {l : List Hd} {w : World} (h : TbW tb l w) : Tr (fun _ => False) w (TbW tb l) := fun W' hW x hx => (Go.Proofs.YtdaohldmojpihaaGreatDoorEv.Tr.of_C (h x hx) k72_heap) W' hW
theorem tb_tr {w : World} (h : Vt.Tb w) : Tr (fun _ => False) w Vt.Tb := fun W' hW => h.of (hW 0 id h.lt)
theorem clepsydralaw23_NodeForgets.calls (a0_0 : Int) (a0_1 : Int) (a0_2 : Int) (a0_3 : Int) (a0_4 : Int) (a0_5 : Int) (a0_6 : Int) (a0_7 : Int) (a0_8 : Int) (a0_9 : Int) (a0_10 : Int) (a0_11 : Int) (a1_0 : Int) (a1_1 : Int) (a1_2 : Int) (a1_3 : Bool) (a1_4 : Int) (a1_5 : Int) (a1_6 : Bool) (A1_7 : Option Addr) (c1_7 : Nat) (l1_7 : List Lp) (a1_8 : Int) (a1_9 : Int) (a1_10 : Int) (a2_0 : Int) (a2_1 : Int) (a2_2 : Int) (a2_3 : Bool) (a2_4 : Int) (a2_5 : Int) (a2_6 : Bool) (A2_7 : Option Addr) (c2_7 : Nat) (l2_7 : List Lp) (a2_8 : Int) (a2_9 : Int) (a2_10 : Int) (a3_0 : Int) (A3_1 : Option Addr) (c3_1 : Nat) (l3_1 : List Hrd) (a3_2 : Bool) (a3_3 : Int) (a3_4 : Bool) (A3_5 : Option Addr) (c3_5 : Nat) (l3_5 : List Lp) (a4_0 : Int) (A4_1 : Option Addr) (c4_1 : Nat) (l4_1 : List Hrd) (a4_2 : Bool) (a4_3 : Int) (a4_4 : Bool) (A4_5 : Option Addr) (c4_5 : Nat) (l4_5 : List Lp) (w : World) (hr1_7 : Kd.C k72 w A1_7 l1_7.length l1_7) (hc1_7 : l1_7.length ≤ c1_7) (hr2_7 : Kd.C k72 w A2_7 l2_7.length l2_7) (hc2_7 : l2_7.length ≤ c2_7) (hr3_1 : Kd.C k45 w A3_1 l3_1.length l3_1) (hc3_1 : l3_1.length ≤ c3_1) (hr3_5 : Kd.C k72 w A3_5 l3_5.length l3_5) (hc3_5 : l3_5.length ≤ c3_5) (hr4_1 : Kd.C k45 w A4_1 l4_1.length l4_1) (hc4_1 : l4_1.length ≤ c4_1) (hr4_5 : Kd.C k72 w A4_5 l4_5.length l4_5) (hc4_5 : l4_5.length ≤ c4_5) (w0_0 : (Lit.int .i64 a0_0).wf = true) (w0_1 : (Lit.int .i64 a0_1).wf = true) (w0_2 : (Lit.int .i64 a0_2).wf = true) (w0_3 : (Lit.int .i64 a0_3).wf = true) (w0_4 : (Lit.int .i64 a0_4).wf = true) (w0_5 : (Lit.int .i64 a0_5).wf = true) (w0_6 : (Lit.int .i64 a0_6).wf = true) (w0_7 : (Lit.int .i64 a0_7).wf = true) (w0_8 : (Lit.int .i64 a0_8).wf = true) (w0_9 : (Lit.int .i64 a0_9).wf = true) (w0_10 : (Lit.int .i64 a0_10).wf = true) (w0_11 : (Lit.int .i64 a0_11).wf = true) (w1_0 : (Lit.int .i64 a1_0).wf = true) (w1_1 : (Lit.int .i64 a1_1).wf = true) (w1_2 : (Lit.int .i64 a1_2).wf = true) (w1_4 : (Lit.int .i64 a1_4).wf = true) (w1_5 : (Lit.int .i64 a1_5).wf = true) (w1_7 : (l1_7.length ≤ maxLen ∧ l1_7.length * 16 ≤ 140737488351232 ∧ ∀ x0_ ∈ l1_7, ((Lit.int .i64 x0_.f0).wf = true ∧ (Lit.int .i64 x0_.f1).wf = true))) (w1_8 : (Lit.int .i64 a1_8).wf = true) (w1_9 : (Lit.int .i64 a1_9).wf = true) (w1_10 : (Lit.int .i64 a1_10).wf = true) (w2_0 : (Lit.int .i64 a2_0).wf = true) (w2_1 : (Lit.int .i64 a2_1).wf = true) (w2_2 : (Lit.int .i64 a2_2).wf = true) (w2_4 : (Lit.int .i64 a2_4).wf = true) (w2_5 : (Lit.int .i64 a2_5).wf = true) (w2_7 : (l2_7.length ≤ maxLen ∧ l2_7.length * 16 ≤ 140737488351232 ∧ ∀ x0_ ∈ l2_7, ((Lit.int .i64 x0_.f0).wf = true ∧ (Lit.int .i64 x0_.f1).wf = true))) (w2_8 : (Lit.int .i64 a2_8).wf = true) (w2_9 : (Lit.int .i64 a2_9).wf = true) (w2_10 : (Lit.int .i64 a2_10).wf = true) (w3_0 : (Lit.int .i64 a3_0).wf = true) (w3_1 : (l3_1.length ≤ maxLen ∧ l3_1.length * 128 ≤ 140737488351232 ∧ ∀ x0_ ∈ l3_1, (((Lit.int .i64 x0_.f0.f0).wf = true ∧ (Lit.int .i64 x0_.f0.f1).wf = true ∧ ((Lit.int .i64 x0_.f0.f2.f0).wf = true ∧ (Lit.int .i64 x0_.f0.f2.f1).wf = true) ∧ (Lit.int .i64 x0_.f0.f3).wf = true ∧ (Lit.int .i64 x0_.f0.f4).wf = true ∧ True ∧ True ∧ ((Lit.int .i64 x0_.f0.f7.f0).wf = true ∧ (Lit.int .i64 x0_.f0.f7.f1).wf = true) ∧ (Lit.int .i64 x0_.f0.f8).wf = true ∧ ((Lit.int .i64 x0_.f0.f9.f0).wf = true ∧ (Lit.int .i64 x0_.f0.f9.f1).wf = true) ∧ (x0_.f0.f10.length ≤ maxLen ∧ x0_.f0.f10.length * 16 ≤ 140737488351232 ∧ ∀ x1_ ∈ x0_.f0.f10, ((Lit.int .i64 x1_.f0).wf = true ∧ (Lit.int .i64 x1_.f1).wf = true))) ∧ (Lit.int .i64 x0_.f1).wf = true))) (w3_3 : (Lit.int .i64 a3_3).wf = true) (w3_5 : (l3_5.length ≤ maxLen ∧ l3_5.length * 16 ≤ 140737488351232 ∧ ∀ x0_ ∈ l3_5, ((Lit.int .i64 x0_.f0).wf = true ∧ (Lit.int .i64 x0_.f1).wf = true))) (w4_0 : (Lit.int .i64 a4_0).wf = true) (w4_1 : (l4_1.length ≤ maxLen ∧ l4_1.length * 128 ≤ 140737488351232 ∧ ∀ x0_ ∈ l4_1, (((Lit.int .i64 x0_.f0.f0).wf = true ∧ (Lit.int .i64 x0_.f0.f1).wf = true ∧ ((Lit.int .i64 x0_.f0.f2.f0).wf = true ∧ (Lit.int .i64 x0_.f0.f2.f1).wf = true) ∧ (Lit.int .i64 x0_.f0.f3).wf = true ∧ (Lit.int .i64 x0_.f0.f4).wf = true ∧ True ∧ True ∧ ((Lit.int .i64 x0_.f0.f7.f0).wf = true ∧ (Lit.int .i64 x0_.f0.f7.f1).wf = true) ∧ (Lit.int .i64 x0_.f0.f8).wf = true ∧ ((Lit.int .i64 x0_.f0.f9.f0).wf = true ∧ (Lit.int .i64 x0_.f0.f9.f1).wf = true) ∧ (x0_.f0.f10.length ≤ maxLen ∧ x0_.f0.f10.length * 16 ≤ 140737488351232 ∧ ∀ x1_ ∈ x0_.f0.f10, ((Lit.int .i64 x1_.f0).wf = true ∧ (Lit.int .i64 x1_.f1).wf = true))) ∧ (Lit.int .i64 x0_.f1).wf = true))) (w4_3 : (Lit.int .i64 a4_3).wf = true) (w4_5 : (l4_5.length ≤ maxLen ∧ l4_5.length * 16 ≤ 140737488351232 ∧ ∀ x0_ ∈ l4_5, ((Lit.int .i64 x0_.f0).wf = true ∧ (Lit.int .i64 x0_.f1).wf = true))) (ht : Vt.Tb w) :
    Calls Tryz.prog 5 #[.agg #[.int .i64 a0_0, .int .i64 a0_1, .int .i64 a0_2, .int .i64 a0_3, .int .i64 a0_4, .int .i64 a0_5, .int .i64 a0_6, .int .i64 a0_7, .int .i64 a0_8, .int .i64 a0_9, .int .i64 a0_10, .int .i64 a0_11], .agg #[.int .i64 a1_0, .int .i64 a1_1, .int .i64 a1_2, .bool a1_3, .int .i64 a1_4, .int .i64 a1_5, .bool a1_6, .slice A1_7 l1_7.length c1_7, .int .i64 a1_8, .int .i64 a1_9, .int .i64 a1_10], .agg #[.int .i64 a2_0, .int .i64 a2_1, .int .i64 a2_2, .bool a2_3, .int .i64 a2_4, .int .i64 a2_5, .bool a2_6, .slice A2_7 l2_7.length c2_7, .int .i64 a2_8, .int .i64 a2_9, .int .i64 a2_10], .agg #[.int .i64 a3_0, .slice A3_1 l3_1.length c3_1, .bool a3_2, .int .i64 a3_3, .bool a3_4, .slice A3_5 l3_5.length c3_5], .agg #[.int .i64 a4_0, .slice A4_1 l4_1.length c4_1, .bool a4_2, .int .i64 a4_3, .bool a4_4, .slice A4_5 l4_5.length c4_5]] w fun e w' => e = .returned (.bool true) ∧ Below w.heap.size w w' := by
  obtain ⟨h1, e1, R1, T1, O1⟩ := heard_in hr3_1 w3_1
  obtain ⟨h2, e2, R2, T2, O2⟩ := heard_in hr4_1 w4_1
  have := NForgets_calls ⟨a0_0, a0_1, a0_2, a0_3, a0_4, a0_5, a0_6, a0_7, a0_8, a0_9, a0_10, a0_11⟩ ⟨a1_0, a1_1, a1_2, a1_3, a1_4, a1_5, a1_6, l1_7, a1_8, a1_9, a1_10⟩ ⟨a2_0, a2_1, a2_2, a2_3, a2_4, a2_5, a2_6, l2_7, a2_8, a2_9, a2_10⟩ A1_7 c1_7 A2_7 c2_7 ⟨a3_0, h1, a3_2, a3_3, a3_4, l3_5⟩ ⟨a4_0, h2, a4_2, a4_3, a4_4, l4_5⟩ A3_1 c3_1 A3_5 c3_5 A4_1 c4_1 A4_5 c4_5 (taOf w) w (Tr.and R1.tr (Tr.and R2.tr (Tr.and T1.tr (Tr.and T2.tr (Tr.and (tb_tr ht) (Tr.and (Go.Proofs.YtdaohldmojpihaaGreatDoorEv.Tr.of_C hr1_7 k72_heap) (Go.Proofs.YtdaohldmojpihaaGreatDoorEv.Tr.of_C hr2_7 k72_heap))))))) (by rw [e1]; exact hr3_1.2.1) (by rw [e2]; exact hr4_1.2.1) O1 O2
  rw [e1, e2] at this
  exact this
end Go.Proofs.YtdaohldmojpihaaGreatDoor.G
