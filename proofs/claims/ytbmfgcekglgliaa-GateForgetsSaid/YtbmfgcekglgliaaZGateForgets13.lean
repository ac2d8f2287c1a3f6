/- Texts GateForgets, GateForgetsC, in one file, without what is not needed here. -/
import Derived.Test.YtbmfgcekglgliaaZGateForgets12
namespace Go.Proofs.Ytbmfgcekglgliaa.G
open Go.RowKit Go.Proofs.YtbmfgcekglgliaaW.PrintWords Go.Proofs.YtbmfgcekglgliaaW.PrintLast Go.Proofs.YtbmfgcekglgliaaW.PrintMore Go.Proofs.YtbmfgcekglgliaaPl Go.Proofs.YtbmfgcekglgliaaEm Go.Proofs.YtbmfgcekglgliaaKr Go.Proofs.YtbmfgcekglgliaaRz Go.Proofs.Ytbmfgcekglgliaa.X
set_option linter.unusedVariables false
set_option linter.unusedSimpArgs false
def pFo (Ah : Option Addr) (l : List Hd) (Ax : Option Addr) (tt : List Lp) (Aa : Option Addr) (ta : List Lp) (Ab : Option Addr) (tb : List Lp) (W : World) : Prop := RowH W Ah l ∧ Kd.C k82 W Ax tt.length tt ∧ Kd.C k82 W Aa ta.length ta ∧ Kd.C k82 W Ab tb.length tb
def msgC (me : Int) (U : St) (rd : Bool) (s1 s2 pu : Int) (A : Option Addr) (n c : Nat) : Array Value := #[.int .i64 1, .int .i64 me, .int .i64 U.lo, .int .i64 U.hi, .int .i64 U.held, .int .i64 U.hops, .bool U.good, .bool rd, .int .i64 s1, .int .i64 s2, .int .i64 pu, .int .i64 U.st, .int .i64 U.sn, .slice A n c]
set_option maxRecDepth 100000 in
set_option maxHeartbeats 40000000 in
theorem Forgets_calls (p : Par) (sa sb : St) (Aa : Option Addr) (ca : Nat) (Ab : Option Addr) (cb : Nat) (x : Inp) (Ah : Option Addr) (ch : Nat) (Ax : Option Addr) (ct : Nat) (w : World) (hr : Tr (fun _ => False) w (pFo Ah x.heard Ax x.tab Aa sa.tab Ab sb.tab)) (hh : x.heard.length ≤ 9223372036854775807) :
    Calls Try.prog 5 #[.agg #[.int .i64 p.N, .int .i64 p.F, .int .i64 p.D, .int .i64 p.Be, .int .i64 p.Rho, .int .i64 p.De, .int .i64 p.Ji, .int .i64 p.Eps, .int .i64 p.Mu, .int .i64 p.Ho, .int .i64 p.Pu, .int .i64 p.Se], .agg #[.int .i64 sa.lo, .int .i64 sa.hi, .int .i64 sa.time, .bool sa.set, .int .i64 sa.held, .int .i64 sa.hops, .bool sa.good, .slice Aa sa.tab.length ca, .int .i64 sa.st, .int .i64 sa.sn, .int .i64 sa.life], .agg #[.int .i64 sb.lo, .int .i64 sb.hi, .int .i64 sb.time, .bool sb.set, .int .i64 sb.held, .int .i64 sb.hops, .bool sb.good, .slice Ab sb.tab.length cb, .int .i64 sb.st, .int .i64 sb.sn, .int .i64 sb.life], .agg #[.int .i64 x.ticks, .slice Ah x.heard.length ch, .bool x.ref, .int .i64 x.reading, .bool x.given, .slice Ax x.tab.length ct]] w fun e w' => e = .returned (.bool true) ∧ Below w.heap.size w w' := by
  have H := Fr.start0 (M := fun _ => False) (A := fun _ => False) (w := w) (p := pFo Ah x.heard Ax x.tab Aa sa.tab Ab sb.tab) (fun _ h => h.elim) hr
  obtain ⟨b1, hb1⟩ : ∃ b, greatP sa.tab.length [⟨x, Ah, ch, Ax, ct⟩] = b := ⟨_, rfl⟩
  obtain ⟨b2, hb2⟩ : ∃ b, greatP sb.tab.length [] = b := ⟨_, rfl⟩
  obtain ⟨ck, hck⟩ : ∃ b, checkP p = b := ⟨_, rfl⟩
  have HG := Lib.hid (And.intro hb1 hb2)
  have KC : Hid (∀ W, Calls Try.prog 7 #[.agg #[.int .i64 p.N, .int .i64 p.F, .int .i64 p.D, .int .i64 p.Be, .int .i64 p.Rho, .int .i64 p.De, .int .i64 p.Ji, .int .i64 p.Eps, .int .i64 p.Mu, .int .i64 p.Ho, .int .i64 p.Pu, .int .i64 p.Se]] W fun e w' => e = .returned (.int .i64 (if ck = true then 0 else 1)) ∧ Below W.heap.size W w') := Lib.hid (fun W => by have := Check_calls p W; rw [hck] at this; exact this)
  have KGA : Hid (∀ W y, Tr (fun _ => False) W (fun W => RowI W (some ⟨y, 0, none⟩) [⟨x, Ah, ch, Ax, ct⟩]) → Calls Try.prog 8 #[.agg #[.int .i64 sa.lo, .int .i64 sa.hi, .int .i64 sa.time, .bool sa.set, .int .i64 sa.held, .int .i64 sa.hops, .bool sa.good, .slice Aa sa.tab.length ca, .int .i64 sa.st, .int .i64 sa.sn, .int .i64 sa.life], .slice (some ⟨y, 0, none⟩) 1 1] W fun e w' => e = .returned (.bool b1) ∧ Below W.heap.size W w') := Lib.hid (fun W y h => by
    have := great_calls sa.lo sa.hi sa.time sa.set sa.held sa.hops sa.good Aa sa.tab.length ca sa.st sa.sn sa.life (some ⟨y, 0, none⟩) 1 [⟨x, Ah, ch, Ax, ct⟩] W h (by simp) (fun y hy => by rw [List.mem_singleton.1 hy]; exact hh)
    rw [hb1] at this
    exact this)
  have KGB : Hid (∀ W, Calls Try.prog 8 #[.agg #[.int .i64 sb.lo, .int .i64 sb.hi, .int .i64 sb.time, .bool sb.set, .int .i64 sb.held, .int .i64 sb.hops, .bool sb.good, .slice Ab sb.tab.length cb, .int .i64 sb.st, .int .i64 sb.sn, .int .i64 sb.life], .slice none 0 0] W fun e w' => e = .returned (.bool b2) ∧ Below W.heap.size W w') := Lib.hid (fun W => by
    have := great_calls sb.lo sb.hi sb.time sb.set sb.held sb.hops sb.good Ab sb.tab.length cb sb.st sb.sn sb.life none 0 [] W (fun _ _ => rowI_nil _ _) (by decide) (fun y hy => by simp at hy)
    rw [hb2] at this
    exact this)
  obtain ⟨za, hza⟩ : ∃ z, saneS p.D sa = z := ⟨_, rfl⟩
  obtain ⟨zb, hzb⟩ : ∃ z, saneS p.D sb = z := ⟨_, rfl⟩
  obtain ⟨ua, hua⟩ : ∃ z, beatS p 0 za x = z := ⟨_, rfl⟩
  obtain ⟨ub, hub⟩ : ∃ z, beatS p 0 zb x = z := ⟨_, rfl⟩
  have HFO : Hid (¬ (ua.held ≠ 0 ∧ ub.held ≠ 0) → ua.lo = ub.lo ∧ ua.hi = ub.hi ∧ ua.held = ub.held ∧ ua.good = true ∧ ub.good = true) := Lib.hid (fun h => by
    have := forgets p 0 sa sb x
    rw [hza, hzb] at this
    rw [← hua, ← hub] at h ⊢
    exact this h)
  have HLA : Hid (b1 = false → x.heard.length ≤ 4096 ∧ x.tab.length ≤ 4096 ∧ sa.tab.length ≤ 4096 ∧ za.tab.length ≤ 4096) := Lib.hid (fun h => by
    rw [h] at hb1
    have := great_no hb1
    have h2 := saneS_tab p.D sa
    rw [hza] at h2
    dsimp only at this
    omega)
  have HLB : Hid (b2 = false → sb.tab.length ≤ 4096 ∧ zb.tab.length ≤ 4096) := Lib.hid (fun h => by
    rw [h] at hb2
    have := great_nil hb2
    have h2 := saneS_tab p.D sb
    rw [hzb] at h2
    omega)
  have KNA : Hid (∀ W, b1 = false → pFo Ah x.heard Ax x.tab Aa sa.tab Ab sb.tab W → Calls Try.prog 9 #[.agg #[.int .i64 p.N, .int .i64 p.F, .int .i64 p.D, .int .i64 p.Be, .int .i64 p.Rho, .int .i64 p.De, .int .i64 p.Ji, .int .i64 p.Eps, .int .i64 p.Mu, .int .i64 p.Ho, .int .i64 p.Pu, .int .i64 p.Se], .int .i64 0, .agg #[.int .i64 sa.lo, .int .i64 sa.hi, .int .i64 sa.time, .bool sa.set, .int .i64 sa.held, .int .i64 sa.hops, .bool sa.good, .slice Aa sa.tab.length ca, .int .i64 sa.st, .int .i64 sa.sn, .int .i64 sa.life]] W fun e w' => ∃ g A' c', e = .returned (.pointer (some ⟨g, 0, none⟩)) ∧ W.heap.size ≤ g ∧ w'.heap[g]? = some (.cells #[.int .i64 p.N, .int .i64 p.F, .int .i64 p.D, .int .i64 p.Be, .int .i64 p.Rho, .int .i64 p.De, .int .i64 p.Ji, .int .i64 p.Eps, .int .i64 p.Mu, .int .i64 p.Ho, .int .i64 p.Pu, .int .i64 p.Se, .int .i64 za.lo, .int .i64 za.hi, .int .i64 za.time, .bool za.set, .int .i64 za.held, .int .i64 za.hops, .bool za.good, .slice A' za.tab.length c', .int .i64 za.st, .int .i64 za.sn, .int .i64 za.life, .int .i64 0] 52 (0, 0)) ∧ w'.ownsRow W.heap.size 82 2 (.slice A' za.tab.length c') za.tab.length (flL za.tab) ∧ (∀ ad, A' = some ad → ad.block ≠ g) ∧ Below W.heap.size W w') := Lib.hid (fun W hb h => New_to p 0 sa Aa ca W za hza h.2.2.1 (HLA.out hb).2.2.1)
  have KNB : Hid (∀ W, b2 = false → pFo Ah x.heard Ax x.tab Aa sa.tab Ab sb.tab W → Calls Try.prog 9 #[.agg #[.int .i64 p.N, .int .i64 p.F, .int .i64 p.D, .int .i64 p.Be, .int .i64 p.Rho, .int .i64 p.De, .int .i64 p.Ji, .int .i64 p.Eps, .int .i64 p.Mu, .int .i64 p.Ho, .int .i64 p.Pu, .int .i64 p.Se], .int .i64 0, .agg #[.int .i64 sb.lo, .int .i64 sb.hi, .int .i64 sb.time, .bool sb.set, .int .i64 sb.held, .int .i64 sb.hops, .bool sb.good, .slice Ab sb.tab.length cb, .int .i64 sb.st, .int .i64 sb.sn, .int .i64 sb.life]] W fun e w' => ∃ g A' c', e = .returned (.pointer (some ⟨g, 0, none⟩)) ∧ W.heap.size ≤ g ∧ w'.heap[g]? = some (.cells #[.int .i64 p.N, .int .i64 p.F, .int .i64 p.D, .int .i64 p.Be, .int .i64 p.Rho, .int .i64 p.De, .int .i64 p.Ji, .int .i64 p.Eps, .int .i64 p.Mu, .int .i64 p.Ho, .int .i64 p.Pu, .int .i64 p.Se, .int .i64 zb.lo, .int .i64 zb.hi, .int .i64 zb.time, .bool zb.set, .int .i64 zb.held, .int .i64 zb.hops, .bool zb.good, .slice A' zb.tab.length c', .int .i64 zb.st, .int .i64 zb.sn, .int .i64 zb.life, .int .i64 0] 52 (0, 0)) ∧ w'.ownsRow W.heap.size 82 2 (.slice A' zb.tab.length c') zb.tab.length (flL zb.tab) ∧ (∀ ad, A' = some ad → ad.block ≠ g) ∧ Below W.heap.size W w') := Lib.hid (fun W hb h => New_to p 0 sb Ab cb W zb hzb h.2.2.2 (HLB.out hb).1)
  have KBA : Hid (∀ W g A c, b1 = false → W.heap[g]? = some (.cells #[.int .i64 p.N, .int .i64 p.F, .int .i64 p.D, .int .i64 p.Be, .int .i64 p.Rho, .int .i64 p.De, .int .i64 p.Ji, .int .i64 p.Eps, .int .i64 p.Mu, .int .i64 p.Ho, .int .i64 p.Pu, .int .i64 p.Se, .int .i64 za.lo, .int .i64 za.hi, .int .i64 za.time, .bool za.set, .int .i64 za.held, .int .i64 za.hops, .bool za.good, .slice A za.tab.length c, .int .i64 za.st, .int .i64 za.sn, .int .i64 za.life, .int .i64 0] 52 (0, 0)) → Tr (fun k => k = g) W (fun W => pFo Ah x.heard Ax x.tab Aa sa.tab Ab sb.tab W ∧ W.ownsRow w.heap.size 82 2 (.slice A za.tab.length c) za.tab.length (flL za.tab)) → Calls Try.prog 10 #[.pointer (some ⟨g, 0, none⟩), .agg #[.int .i64 x.ticks, .slice Ah x.heard.length ch, .bool x.ref, .int .i64 x.reading, .bool x.given, .slice Ax x.tab.length ct]] W fun e w' => ∃ A1 c1 A2 c2, e = .returned (.agg (msgC 0 ua (rdB p x) (snP p x).1 (snP p x).2 (pulseS p ua) A2 ua.tab.length c2)) ∧ w'.heap[g]? = some (.cells #[.int .i64 p.N, .int .i64 p.F, .int .i64 p.D, .int .i64 p.Be, .int .i64 p.Rho, .int .i64 p.De, .int .i64 p.Ji, .int .i64 p.Eps, .int .i64 p.Mu, .int .i64 p.Ho, .int .i64 p.Pu, .int .i64 p.Se, .int .i64 ua.lo, .int .i64 ua.hi, .int .i64 ua.time, .bool ua.set, .int .i64 ua.held, .int .i64 ua.hops, .bool ua.good, .slice A1 ua.tab.length c1, .int .i64 ua.st, .int .i64 ua.sn, .int .i64 ua.life, .int .i64 0] 52 (0, 0)) ∧ Chg (fun k => k = g) W w') := Lib.hid (fun W g A c hb h1 h2 => by
    refine (Beat_to p 0 za A c g x Ah ch Ax ct W ua hua h1 (Foot.imp h2 (fun W' h => ⟨h.1.1, h.1.2.1, own_C h.2 rfl⟩)) (HLA.out hb).1 (HLA.out hb).2.1 (HLA.out hb).2.2.2).mono ?_
    rintro e w' ⟨A1, c1, A2, c2, h3, h4, _, _, _, h5⟩
    exact ⟨A1, c1, A2, c2, h3, h4, h5⟩)
  have KBB : Hid (∀ W g A c, b1 = false → b2 = false → W.heap[g]? = some (.cells #[.int .i64 p.N, .int .i64 p.F, .int .i64 p.D, .int .i64 p.Be, .int .i64 p.Rho, .int .i64 p.De, .int .i64 p.Ji, .int .i64 p.Eps, .int .i64 p.Mu, .int .i64 p.Ho, .int .i64 p.Pu, .int .i64 p.Se, .int .i64 zb.lo, .int .i64 zb.hi, .int .i64 zb.time, .bool zb.set, .int .i64 zb.held, .int .i64 zb.hops, .bool zb.good, .slice A zb.tab.length c, .int .i64 zb.st, .int .i64 zb.sn, .int .i64 zb.life, .int .i64 0] 52 (0, 0)) → Tr (fun k => k = g) W (fun W => pFo Ah x.heard Ax x.tab Aa sa.tab Ab sb.tab W ∧ W.ownsRow w.heap.size 82 2 (.slice A zb.tab.length c) zb.tab.length (flL zb.tab)) → Calls Try.prog 10 #[.pointer (some ⟨g, 0, none⟩), .agg #[.int .i64 x.ticks, .slice Ah x.heard.length ch, .bool x.ref, .int .i64 x.reading, .bool x.given, .slice Ax x.tab.length ct]] W fun e w' => ∃ A1 c1 A2 c2, e = .returned (.agg (msgC 0 ub (rdB p x) (snP p x).1 (snP p x).2 (pulseS p ub) A2 ub.tab.length c2)) ∧ w'.heap[g]? = some (.cells #[.int .i64 p.N, .int .i64 p.F, .int .i64 p.D, .int .i64 p.Be, .int .i64 p.Rho, .int .i64 p.De, .int .i64 p.Ji, .int .i64 p.Eps, .int .i64 p.Mu, .int .i64 p.Ho, .int .i64 p.Pu, .int .i64 p.Se, .int .i64 ub.lo, .int .i64 ub.hi, .int .i64 ub.time, .bool ub.set, .int .i64 ub.held, .int .i64 ub.hops, .bool ub.good, .slice A1 ub.tab.length c1, .int .i64 ub.st, .int .i64 ub.sn, .int .i64 ub.life, .int .i64 0] 52 (0, 0)) ∧ Chg (fun k => k = g) W w') := Lib.hid (fun W g A c hb hb' h1 h2 => by
    refine (Beat_to p 0 zb A c g x Ah ch Ax ct W ub hub h1 (Foot.imp h2 (fun W' h => ⟨h.1.1, h.1.2.1, own_C h.2 rfl⟩)) (HLA.out hb).1 (HLA.out hb).2.1 (HLB.out hb').2).mono ?_
    rintro e w' ⟨A1, c1, A2, c2, h3, h4, _, _, _, h5⟩
    exact ⟨A1, c1, A2, c2, h3, h4, h5⟩)
  obtain ⟨rd, hrd⟩ : ∃ b, rdB p x = b := ⟨_, rfl⟩
  obtain ⟨q1, hq1⟩ : ∃ b, (snP p x).1 = b := ⟨_, rfl⟩
  obtain ⟨q2, hq2⟩ : ∃ b, (snP p x).2 = b := ⟨_, rfl⟩
  obtain ⟨pa, hpa⟩ : ∃ b, pulseS p ua = b := ⟨_, rfl⟩
  obtain ⟨pb, hpb⟩ : ∃ b, pulseS p ub = b := ⟨_, rfl⟩
  rw [hrd, hq1, hq2, hpa] at KBA
  rw [hrd, hq1, hq2, hpb] at KBB
  clear hrd hq1 hq2 hpa hpb hua hub
  have HHE : Hid (∀ W, pFo Ah x.heard Ax x.tab Aa sa.tab Ab sb.tab W → RowH W Ah x.heard) := Lib.hid (fun W h => h.1)
  obtain ⟨la, ha, ta, ea, hea, hpa, ga, tba, sta, sna, lfa⟩ := sa
  obtain ⟨lb, hb, tb, eb, heb, hpb, gb, tbb, stb, snb, lfb⟩ := sb
  obtain ⟨ticks, heard, ref, reading, given, ttab⟩ := x
  obtain ⟨xla, xha, xta, xea, xhea, xhpa, xga, xtba, xsta, xsna, xlfa⟩ := za
  obtain ⟨xlb, xhb, xtb, xeb, xheb, xhpb, xgb, xtbb, xstb, xsnb, xlfb⟩ := zb
  obtain ⟨yla, yha, yta, yea, yhea, yhpa, yga, ytba, ysta, ysna, ylfa⟩ := ua
  obtain ⟨ylb, yhb, ytb, yeb, yheb, yhpb, ygb, ytbb, ystb, ysnb, ylfb⟩ := ub
  unfold msgC at KBA KBB
  dsimp only at KGA KGB KNA KNB KBA KBB HFO H HHE HLA HLB hr ⊢
  obtain ⟨nh, hnh⟩ : ∃ n, heard.length = n := ⟨_, rfl⟩
  obtain ⟨nt, hnt⟩ : ∃ n, ttab.length = n := ⟨_, rfl⟩
  obtain ⟨na, hna⟩ : ∃ n, tba.length = n := ⟨_, rfl⟩
  obtain ⟨nb, hnb⟩ : ∃ n, tbb.length = n := ⟨_, rfl⟩
  have HEN : Hid (encI ⟨⟨ticks, heard, ref, reading, given, ttab⟩, Ah, ch, Ax, ct⟩ = [.int .i64 ticks, .slice Ah nh ch, .bool ref, .int .i64 reading, .bool given, .slice Ax nt ct]) := Lib.hid (by unfold encI; dsimp only; rw [hnh, hnt])
  rw [hnh, hnt] at KBA KBB
  rw [hna] at KGA KNA
  rw [hnb] at KGB KNB
  rw [hnh, hnt, hna, hnb]
  clear hnh hnt hna hnb hr hb1 hb2 hck hza hzb hh HLA HLB
  go_enter Try.func5, Try.ntmps5
  cases ck with
  | false =>
    go_wp2_with (first
      | (go_at_call 6; (with_reducible refine (alive_calls _).mono ?_); rintro e w' ⟨rfl, hb⟩; have H1 := H.call hb; clear hb; clear H; have H := H1; clear H1)
      | (go_at_call 7; (with_reducible refine (KC.out _).mono ?_); rintro e w' ⟨rfl, hb⟩; have H1 := H.call hb; clear hb; clear H; have H := H1; clear H1)
      | ((with_reducible refine gate_dst (N := 4) rfl ?_); refine fr_box H rfl rfl rfl ?_; intro g4 w4 H1; clear H; have H := H1; clear H1)
      | ((with_reducible refine gate_dst (N := 5) rfl ?_); refine fr_box H rfl rfl rfl ?_; intro g5 w5 H1; clear H; have H := H1; clear H1)
      | ((with_reducible refine gate_dst (N := 6) rfl ?_); refine fr_box H rfl rfl rfl ?_; intro g6 w6 H1; clear H; have H := H1; clear H1)
      | ((with_reducible refine gate_dst (N := 7) rfl ?_); refine fr_box H rfl rfl rfl ?_; intro g7 w7 H1; clear H; have H := H1; clear H1)
      | ((with_reducible refine gate_dst (N := 15) rfl ?_); refine fr_sub H (n := 12) rfl rfl rfl (by repeat (first | exact At.head | apply At.tail)) Try.underlying23 rfl (by kernel_rfl) (by simp only [List.toList_toArray, List.drop_succ_cons, List.drop_zero, List.take_succ_cons, List.take_zero]; rfl) (by rfl) ?_)
      | ((with_reducible refine gate_dst (N := 19) rfl ?_); (try (refine gate_guard (by rfl) ?_; dsimp only)); refine fr_sub H (n := 11) rfl rfl rfl (by repeat (first | exact At.head | apply At.tail)) Try.underlying30 rfl (by kernel_rfl) (by simp only [List.toList_toArray, List.drop_succ_cons, List.drop_zero, List.take_succ_cons, List.take_zero]; rfl) (by rfl) ?_)
      | ((with_reducible refine gate_dst (N := 20) rfl ?_); (try (refine gate_guard (by rfl) ?_; dsimp only)); refine fr_sub H (n := 6) rfl rfl rfl (by repeat (first | exact At.head | apply At.tail)) Try.underlying38 rfl (by kernel_rfl) (by simp only [List.toList_toArray, List.drop_succ_cons, List.drop_zero, List.take_succ_cons, List.take_zero]; rfl) (by rfl) ?_)
      | ((with_reducible refine gate_dst (N := 21) rfl ?_); (try (refine gate_guard (by rfl) ?_; dsimp only)); refine fr_rowv H (N := 21) rfl rfl (fun K hK => by go_simp; exact hK.out) ?_; intro x21 w21 H1; clear H; have H := H1; clear H1)
      | ((with_reducible refine gate_dst (N := 25) rfl ?_); (try (refine gate_guard (by rfl) ?_; dsimp only)); refine fr_sub H (n := 11) rfl rfl rfl (by repeat (first | exact At.head | apply At.tail)) Try.underlying30 rfl (by kernel_rfl) (by simp only [List.toList_toArray, List.drop_succ_cons, List.drop_zero, List.take_succ_cons, List.take_zero]; rfl) (by rfl) ?_)
      | fail)
    go_ret
    exact ⟨rfl, H.below⟩
  | true =>
    cases b1 with
    | true =>
      go_wp2_with (first
        | (go_at_call 6; (with_reducible refine (alive_calls _).mono ?_); rintro e w' ⟨rfl, hb⟩; have H1 := H.call hb; clear hb; clear H; have H := H1; clear H1)
        | (go_at_call 7; (with_reducible refine (KC.out _).mono ?_); rintro e w' ⟨rfl, hb⟩; have H1 := H.call hb; clear hb; clear H; have H := H1; clear H1)
        | (go_at_call 8; have HT := rowI_one (y := ⟨⟨ticks, heard, ref, reading, given, ttab⟩, Ah, ch, Ax, ct⟩) H (by rw [HEN.out]; exact H.of At.head) HHE.out; (with_reducible refine (KGA.out _ _ HT).mono ?_); clear HT; rintro e w' ⟨rfl, hb⟩; have H1 := H.call hb; clear hb; clear H; have H := H1; clear H1)
        | ((with_reducible refine gate_dst (N := 4) rfl ?_); refine fr_box H rfl rfl rfl ?_; intro g4 w4 H1; clear H; have H := H1; clear H1)
        | ((with_reducible refine gate_dst (N := 5) rfl ?_); refine fr_box H rfl rfl rfl ?_; intro g5 w5 H1; clear H; have H := H1; clear H1)
        | ((with_reducible refine gate_dst (N := 6) rfl ?_); refine fr_box H rfl rfl rfl ?_; intro g6 w6 H1; clear H; have H := H1; clear H1)
        | ((with_reducible refine gate_dst (N := 7) rfl ?_); refine fr_box H rfl rfl rfl ?_; intro g7 w7 H1; clear H; have H := H1; clear H1)
        | ((with_reducible refine gate_dst (N := 15) rfl ?_); refine fr_sub H (n := 12) rfl rfl rfl (by repeat (first | exact At.head | apply At.tail)) Try.underlying23 rfl (by kernel_rfl) (by simp only [List.toList_toArray, List.drop_succ_cons, List.drop_zero, List.take_succ_cons, List.take_zero]; rfl) (by rfl) ?_)
        | ((with_reducible refine gate_dst (N := 19) rfl ?_); (try (refine gate_guard (by rfl) ?_; dsimp only)); refine fr_sub H (n := 11) rfl rfl rfl (by repeat (first | exact At.head | apply At.tail)) Try.underlying30 rfl (by kernel_rfl) (by simp only [List.toList_toArray, List.drop_succ_cons, List.drop_zero, List.take_succ_cons, List.take_zero]; rfl) (by rfl) ?_)
        | ((with_reducible refine gate_dst (N := 20) rfl ?_); (try (refine gate_guard (by rfl) ?_; dsimp only)); refine fr_sub H (n := 6) rfl rfl rfl (by repeat (first | exact At.head | apply At.tail)) Try.underlying38 rfl (by kernel_rfl) (by simp only [List.toList_toArray, List.drop_succ_cons, List.drop_zero, List.take_succ_cons, List.take_zero]; rfl) (by rfl) ?_)
        | ((with_reducible refine gate_dst (N := 21) rfl ?_); (try (refine gate_guard (by rfl) ?_; dsimp only)); refine fr_rowv H (N := 21) rfl rfl (fun K hK => by go_simp; exact hK.out) ?_; intro x21 w21 H1; clear H; have H := H1; clear H1)
        | ((with_reducible refine gate_dst (N := 25) rfl ?_); (try (refine gate_guard (by rfl) ?_; dsimp only)); refine fr_sub H (n := 11) rfl rfl rfl (by repeat (first | exact At.head | apply At.tail)) Try.underlying30 rfl (by kernel_rfl) (by simp only [List.toList_toArray, List.drop_succ_cons, List.drop_zero, List.take_succ_cons, List.take_zero]; rfl) (by rfl) ?_)
        | fail)
      go_ret
      exact ⟨rfl, H.below⟩
    | false =>
      cases b2 with
      | true =>
        go_wp2_with (first
          | (go_at_call 6; (with_reducible refine (alive_calls _).mono ?_); rintro e w' ⟨rfl, hb⟩; have H1 := H.call hb; clear hb; clear H; have H := H1; clear H1)
          | (go_at_call 7; (with_reducible refine (KC.out _).mono ?_); rintro e w' ⟨rfl, hb⟩; have H1 := H.call hb; clear hb; clear H; have H := H1; clear H1)
          | (go_at_call 8; have HT := rowI_one (y := ⟨⟨ticks, heard, ref, reading, given, ttab⟩, Ah, ch, Ax, ct⟩) H (by rw [HEN.out]; exact H.of At.head) HHE.out; (with_reducible refine (KGA.out _ _ HT).mono ?_); clear HT; rintro e w' ⟨rfl, hb⟩; have H1 := H.call hb; clear hb; clear H; have H := H1; clear H1)
          | (go_at_call 8; (with_reducible refine (KGB.out _).mono ?_); rintro e w' ⟨rfl, hb⟩; have H1 := H.call hb; clear hb; clear H; have H := H1; clear H1)
          | ((with_reducible refine gate_dst (N := 4) rfl ?_); refine fr_box H rfl rfl rfl ?_; intro g4 w4 H1; clear H; have H := H1; clear H1)
          | ((with_reducible refine gate_dst (N := 5) rfl ?_); refine fr_box H rfl rfl rfl ?_; intro g5 w5 H1; clear H; have H := H1; clear H1)
          | ((with_reducible refine gate_dst (N := 6) rfl ?_); refine fr_box H rfl rfl rfl ?_; intro g6 w6 H1; clear H; have H := H1; clear H1)
          | ((with_reducible refine gate_dst (N := 7) rfl ?_); refine fr_box H rfl rfl rfl ?_; intro g7 w7 H1; clear H; have H := H1; clear H1)
          | ((with_reducible refine gate_dst (N := 15) rfl ?_); refine fr_sub H (n := 12) rfl rfl rfl (by repeat (first | exact At.head | apply At.tail)) Try.underlying23 rfl (by kernel_rfl) (by simp only [List.toList_toArray, List.drop_succ_cons, List.drop_zero, List.take_succ_cons, List.take_zero]; rfl) (by rfl) ?_)
          | ((with_reducible refine gate_dst (N := 19) rfl ?_); (try (refine gate_guard (by rfl) ?_; dsimp only)); refine fr_sub H (n := 11) rfl rfl rfl (by repeat (first | exact At.head | apply At.tail)) Try.underlying30 rfl (by kernel_rfl) (by simp only [List.toList_toArray, List.drop_succ_cons, List.drop_zero, List.take_succ_cons, List.take_zero]; rfl) (by rfl) ?_)
          | ((with_reducible refine gate_dst (N := 20) rfl ?_); (try (refine gate_guard (by rfl) ?_; dsimp only)); refine fr_sub H (n := 6) rfl rfl rfl (by repeat (first | exact At.head | apply At.tail)) Try.underlying38 rfl (by kernel_rfl) (by simp only [List.toList_toArray, List.drop_succ_cons, List.drop_zero, List.take_succ_cons, List.take_zero]; rfl) (by rfl) ?_)
          | ((with_reducible refine gate_dst (N := 21) rfl ?_); (try (refine gate_guard (by rfl) ?_; dsimp only)); refine fr_rowv H (N := 21) rfl rfl (fun K hK => by go_simp; exact hK.out) ?_; intro x21 w21 H1; clear H; have H := H1; clear H1)
          | ((with_reducible refine gate_dst (N := 25) rfl ?_); (try (refine gate_guard (by rfl) ?_; dsimp only)); refine fr_sub H (n := 11) rfl rfl rfl (by repeat (first | exact At.head | apply At.tail)) Try.underlying30 rfl (by kernel_rfl) (by simp only [List.toList_toArray, List.drop_succ_cons, List.drop_zero, List.take_succ_cons, List.take_zero]; rfl) (by rfl) ?_)
          | fail)
        go_ret
        exact ⟨rfl, H.below⟩
      | false =>
        have KNA' := Lib.hid (fun W => KNA.out W rfl)
        have KNB' := Lib.hid (fun W => KNB.out W rfl)
        have KBA' := Lib.hid (fun W g A c => KBA.out W g A c rfl)
        have KBB' := Lib.hid (fun W g A c => KBB.out W g A c rfl rfl)
        clear KNA KNB KBA KBB
        go_upto_region 5 with (first
          | (go_at_call 6; (with_reducible refine (alive_calls _).mono ?_); rintro e w' ⟨rfl, hb⟩; have H1 := H.call hb; clear hb; clear H; have H := H1; clear H1)
          | (go_at_call 7; (with_reducible refine (KC.out _).mono ?_); rintro e w' ⟨rfl, hb⟩; have H1 := H.call hb; clear hb; clear H; have H := H1; clear H1)
          | (go_at_call 8; have HT := rowI_one (y := ⟨⟨ticks, heard, ref, reading, given, ttab⟩, Ah, ch, Ax, ct⟩) H (by rw [HEN.out]; exact H.of At.head) HHE.out; (with_reducible refine (KGA.out _ _ HT).mono ?_); clear HT; rintro e w' ⟨rfl, hb⟩; have H1 := H.call hb; clear hb; clear H; have H := H1; clear H1)
          | (go_at_call 8; (with_reducible refine (KGB.out _).mono ?_); rintro e w' ⟨rfl, hb⟩; have H1 := H.call hb; clear hb; clear H; have H := H1; clear H1)
          | ((with_reducible refine gate_dst (N := 4) rfl ?_); refine fr_box H rfl rfl rfl ?_; intro g4 w4 H1; clear H; have H := H1; clear H1)
          | ((with_reducible refine gate_dst (N := 5) rfl ?_); refine fr_box H rfl rfl rfl ?_; intro g5 w5 H1; clear H; have H := H1; clear H1)
          | ((with_reducible refine gate_dst (N := 6) rfl ?_); refine fr_box H rfl rfl rfl ?_; intro g6 w6 H1; clear H; have H := H1; clear H1)
          | ((with_reducible refine gate_dst (N := 7) rfl ?_); refine fr_box H rfl rfl rfl ?_; intro g7 w7 H1; clear H; have H := H1; clear H1)
          | ((with_reducible refine gate_dst (N := 15) rfl ?_); refine fr_sub H (n := 12) rfl rfl rfl (by repeat (first | exact At.head | apply At.tail)) Try.underlying23 rfl (by kernel_rfl) (by simp only [List.toList_toArray, List.drop_succ_cons, List.drop_zero, List.take_succ_cons, List.take_zero]; rfl) (by rfl) ?_)
          | ((with_reducible refine gate_dst (N := 19) rfl ?_); (try (refine gate_guard (by rfl) ?_; dsimp only)); refine fr_sub H (n := 11) rfl rfl rfl (by repeat (first | exact At.head | apply At.tail)) Try.underlying30 rfl (by kernel_rfl) (by simp only [List.toList_toArray, List.drop_succ_cons, List.drop_zero, List.take_succ_cons, List.take_zero]; rfl) (by rfl) ?_)
          | ((with_reducible refine gate_dst (N := 20) rfl ?_); (try (refine gate_guard (by rfl) ?_; dsimp only)); refine fr_sub H (n := 6) rfl rfl rfl (by repeat (first | exact At.head | apply At.tail)) Try.underlying38 rfl (by kernel_rfl) (by simp only [List.toList_toArray, List.drop_succ_cons, List.drop_zero, List.take_succ_cons, List.take_zero]; rfl) (by rfl) ?_)
          | ((with_reducible refine gate_dst (N := 21) rfl ?_); (try (refine gate_guard (by rfl) ?_; dsimp only)); refine fr_rowv H (N := 21) rfl rfl (fun K hK => by go_simp; exact hK.out) ?_; intro x21 w21 H1; clear H; have H := H1; clear H1)
          | ((with_reducible refine gate_dst (N := 25) rfl ?_); (try (refine gate_guard (by rfl) ?_; dsimp only)); refine fr_sub H (n := 11) rfl rfl rfl (by repeat (first | exact At.head | apply At.tail)) Try.underlying30 rfl (by kernel_rfl) (by simp only [List.toList_toArray, List.drop_succ_cons, List.drop_zero, List.take_succ_cons, List.take_zero]; rfl) (by rfl) ?_)
          | fail)
        refine ro_start (Frs _ _ _ _ _) [] [0, 1, 3, 4, 2, 5, 6, 7] 8 (by kernel_rfl) (by rfl) (by simp only [pickR, List.getElem?_cons_succ, List.getElem?_cons_zero]; rfl) (by rfl) (H.drewN 1) (fun HS => ?_)
        have H1 : Fr _ _ _ _ _ _ := HS
        clear HS H
        have H := H1
        clear H1
        repeat (first
          | ((with_reducible refine rz_call (f := 9) rfl ?_); refine ro_call 9 _ rfl (by kernel_rfl) (by kernel_rfl) (by rfl) Try.func9 (by kernel_rfl) rfl (by simp only [List.map_toArray, List.map_cons, List.map_nil]; rfl) ?_; (refine (KNA'.out _ H.now).mono ?_); rintro e w' ⟨g, A1, c1, rfl, hg, hb, ho, hne, hB⟩; have HB1 := H.call hB; refine ⟨_, rfl, HB1, fun _ => ?_⟩; have H2 := Fr.freshRow H hg hb hB ho hne; have HB := HB1; clear hg hb ho hne hB HB1 H; have H := H2; clear H2; (try simp only [Act.put, List.setIfInBounds_toArray, List.set_cons_zero, List.set_cons_succ, Nat.reduceAdd]))
          | ((with_reducible refine rz_call (f := 9) rfl ?_); refine ro_call 9 _ rfl (by kernel_rfl) (by kernel_rfl) (by rfl) Try.func9 (by kernel_rfl) rfl (by simp only [List.map_toArray, List.map_cons, List.map_nil]; rfl) ?_; (refine (KNB'.out _ HB.now).mono ?_); rintro e w' ⟨h, A2, c2, rfl, hg, hb, ho, hne, hB⟩; have HB1 := HB.call hB; refine ⟨_, rfl, HB1, fun _ => ?_⟩; have H2 := Fr.freshRow H hg hb hB ho hne; clear hg hb ho hne hB HB1 H HB; have H := H2; clear H2; (try simp only [Act.put, List.setIfInBounds_toArray, List.set_cons_zero, List.set_cons_succ, Nat.reduceAdd]))
          | ((with_reducible refine rz_dst (N := 4) rfl ?_); refine ro_box H rfl (by kernel_rfl) (by kernel_rfl) (by rfl) (by rfl) ?_; intro g4 w1 hg4 H1; clear H; have H := H1; clear H1; (try simp only [Act.put, List.setIfInBounds_toArray, List.set_cons_zero, List.set_cons_succ, Nat.reduceAdd]))
          | ((with_reducible refine rz_dst (N := 5) rfl ?_); refine ro_box H rfl (by kernel_rfl) (by kernel_rfl) (by rfl) (by rfl) ?_; intro g5 w1 hg5 H1; clear H; have H := H1; clear H1; (try simp only [Act.put, List.setIfInBounds_toArray, List.set_cons_zero, List.set_cons_succ, Nat.reduceAdd]))
          | ((with_reducible refine rz_dst (N := 6) rfl ?_); refine ro_box H rfl (by kernel_rfl) (by kernel_rfl) (by rfl) (by rfl) ?_; intro g6 w1 hg6 H1; clear H; have H := H1; clear H1; (try simp only [Act.put, List.setIfInBounds_toArray, List.set_cons_zero, List.set_cons_succ, Nat.reduceAdd]))
          | ((with_reducible refine rz_dst (N := 7) rfl ?_); refine ro_box H rfl (by kernel_rfl) (by kernel_rfl) (by rfl) (by rfl) ?_; intro g7 w1 hg7 H1; clear H; have H := H1; clear H1; (try simp only [Act.put, List.setIfInBounds_toArray, List.set_cons_zero, List.set_cons_succ, Nat.reduceAdd]))
          | ((with_reducible refine rz_load (ty := 23) rfl ?_); refine ro_sub H (m := 12) rfl (by kernel_rfl) (fun _ _ _ h => h) (by rfl) (by rfl) (by repeat (first | exact At.head | apply At.tail)) Try.underlying23 rfl (by kernel_rfl) (by simp only [List.toList_toArray, List.drop_succ_cons, List.drop_zero, List.take_succ_cons, List.take_zero]; rfl) (by rfl) ?_; (try simp only [Act.put, List.setIfInBounds_toArray, List.set_cons_zero, List.set_cons_succ, Nat.reduceAdd]))
          | ((with_reducible refine rz_load (ty := 30) rfl ?_); refine ro_sub H (m := 11) rfl (by kernel_rfl) (fun _ _ _ h => h) (by rfl) (by rfl) (by repeat (first | exact At.head | apply At.tail)) Try.underlying30 rfl (by kernel_rfl) (by simp only [List.toList_toArray, List.drop_succ_cons, List.drop_zero, List.take_succ_cons, List.take_zero]; rfl) (by rfl) ?_; (try simp only [Act.put, List.setIfInBounds_toArray, List.set_cons_zero, List.set_cons_succ, Nat.reduceAdd]))
          | ((with_reducible refine rz_load (ty := 38) rfl ?_); refine ro_sub H (m := 6) rfl (by kernel_rfl) (fun _ _ _ h => h) (by rfl) (by rfl) (by repeat (first | exact At.head | apply At.tail)) Try.underlying38 rfl (by kernel_rfl) (by simp only [List.toList_toArray, List.drop_succ_cons, List.drop_zero, List.take_succ_cons, List.take_zero]; rfl) (by rfl) ?_; (try simp only [Act.put, List.setIfInBounds_toArray, List.set_cons_zero, List.set_cons_succ, Nat.reduceAdd]))
          | ((with_reducible refine rz_dst (N := 21) rfl ?_); refine ro_row H (by kernel_rfl) (by kernel_rfl) (by rfl) (fun K hK => by go_simp; exact hK.out) ?_; intro x21 w1 hx21 H1; clear H; have H := H1; clear H1; (try simp only [Act.put, List.setIfInBounds_toArray, List.set_cons_zero, List.set_cons_succ, Nat.reduceAdd]))
          | ((with_reducible refine rz_store (ty := 43) rfl ?_); refine ro_set H (u := .agg (List.toArray _)) rfl rfl (by kernel_rfl) (by kernel_rfl) (by rfl) (by rfl) (by rfl) (by repeat (first | exact At.head | apply At.tail)) (Nat.le_of_ble_eq_true rfl) (by simp only [Value.cells, List.take_succ_cons, List.take_zero, List.drop_succ_cons, List.drop_zero, List.cons_append, List.nil_append, List.size_toArray, List.length_cons, List.length_nil, Nat.reduceAdd, List.append_nil, List.drop_nil, List.take_nil, List.toList_toArray]; rfl) (by kernel_rfl) (by simp [Value.cells, Value.oneCell']) ?_; intro w1 H1; clear H; have H := H1; clear H1; (try simp only [Act.put, List.setIfInBounds_toArray, List.set_cons_zero, List.set_cons_succ, Nat.reduceAdd]))
          | ((with_reducible refine rz_load (ty := 3) rfl ?_); refine ro_get H rfl (by kernel_rfl) (fun _ _ _ h => h) (by rfl) (by rfl) (by repeat (first | exact At.head | apply At.tail)) Try.underlying3 rfl (by simp only [List.getElem?_toArray, List.getElem?_cons_succ, List.getElem?_cons_zero]; rfl) ?_; (try simp only [Act.put, List.setIfInBounds_toArray, List.set_cons_zero, List.set_cons_succ, Nat.reduceAdd]))
          | ((with_reducible refine rz_load (ty := 25) rfl ?_); refine ro_sub H (m := 2) rfl (by kernel_rfl) (fun _ _ _ h => h) (by rfl) (by rfl) (by repeat (first | exact At.head | apply At.tail)) Try.underlying25 rfl (by kernel_rfl) (by simp only [List.toList_toArray, List.drop_succ_cons, List.drop_zero, List.take_succ_cons, List.take_zero]; rfl) (by rfl) ?_; (try simp only [Act.put, List.setIfInBounds_toArray, List.set_cons_zero, List.set_cons_succ, Nat.reduceAdd]))
          | ((with_reducible refine rz_load (ty := 4) rfl ?_); refine ro_get H rfl (by kernel_rfl) (fun _ _ _ h => h) (by rfl) (by rfl) (by repeat (first | exact At.head | apply At.tail)) Try.underlying4 rfl (by simp only [List.getElem?_toArray, List.getElem?_cons_succ, List.getElem?_cons_zero]; rfl) ?_; (try simp only [Act.put, List.setIfInBounds_toArray, List.set_cons_zero, List.set_cons_succ, Nat.reduceAdd]))
          | (refine ro_off (by kernel_rfl) (fun _ _ _ h => h) (by rfl) ?_; (try simp only [Act.put, List.setIfInBounds_toArray, List.set_cons_zero, List.set_cons_succ, Nat.reduceAdd]))
          | (refine ro_pure (by kernel_rfl) (fun _ _ _ h => h) (by rfl) (fun W K hK => by go_simp; exact hK.out) ?_; (try simp only [Act.put, List.setIfInBounds_toArray, List.set_cons_zero, List.set_cons_succ, Nat.reduceAdd])))
        refine ro_done (by kernel_rfl) ?_
        go_upto_region 6 with fail
        go_cut [11, 12] (fun v11 v12 wc => ∃ (g11 g12 : Nat) (A3 A4 A5 A6 : Option Addr) (c3 c4 c5 c6 : Nat), v11 = .pointer (some ⟨g11, 0, none⟩) ∧ v12 = .pointer (some ⟨g12, 0, none⟩) ∧ Fr (fun _ => False) (fun _ => False) w wc [(g12, .cells #[.int .i64 1, .int .i64 0, .int .i64 ylb, .int .i64 yhb, .int .i64 yheb, .int .i64 yhpb, .bool ygb, .bool rd, .int .i64 q1, .int .i64 q2, .int .i64 pb, .int .i64 ystb, .int .i64 ysnb, .slice A6 ytbb.length c6] 43 (0, 0)), (g11, .cells #[.int .i64 1, .int .i64 0, .int .i64 yla, .int .i64 yha, .int .i64 yhea, .int .i64 yhpa, .bool yga, .bool rd, .int .i64 q1, .int .i64 q2, .int .i64 pa, .int .i64 ysta, .int .i64 ysna, .slice A4 ytba.length c4] 43 (0, 0)), (h, .cells #[.int .i64 p.N, .int .i64 p.F, .int .i64 p.D, .int .i64 p.Be, .int .i64 p.Rho, .int .i64 p.De, .int .i64 p.Ji, .int .i64 p.Eps, .int .i64 p.Mu, .int .i64 p.Ho, .int .i64 p.Pu, .int .i64 p.Se, .int .i64 ylb, .int .i64 yhb, .int .i64 ytb, .bool yeb, .int .i64 yheb, .int .i64 yhpb, .bool ygb, .slice A5 ytbb.length c5, .int .i64 ystb, .int .i64 ysnb, .int .i64 ylfb, .int .i64 0] 52 (0, 0)), (g, .cells #[.int .i64 p.N, .int .i64 p.F, .int .i64 p.D, .int .i64 p.Be, .int .i64 p.Rho, .int .i64 p.De, .int .i64 p.Ji, .int .i64 p.Eps, .int .i64 p.Mu, .int .i64 p.Ho, .int .i64 p.Pu, .int .i64 p.Se, .int .i64 yla, .int .i64 yha, .int .i64 yta, .bool yea, .int .i64 yhea, .int .i64 yhpa, .bool yga, .slice A3 ytba.length c3, .int .i64 ysta, .int .i64 ysna, .int .i64 ylfa, .int .i64 0] 52 (0, 0))] (fun _ => True))
        case first =>
          refine ro_start (Frs (fun _ => False) (fun _ => False) w [(g7, .cells #[.int .i64 ticks, .slice Ah nh ch, .bool ref, .int .i64 reading, .bool given, .slice Ax nt ct] 38 (0, 0))] (pFo Ah heard Ax ttab Aa tba Ab tbb)) [8, 9] [0, 1, 3, 4, 2, 5, 6, 7, 8, 9] 10 (by kernel_rfl) (by rfl) (by simp only [pickR, List.getElem?_cons_succ, List.getElem?_cons_zero]; rfl) (by rfl) (Fr.only (H.drewN 1) (by repeat (first | exact At.head | apply At.tail)) (fun _ h => h.1.1)) (fun HS0 => ?_)
          have HS : Fr _ _ _ _ _ _ := HS0
          have H1 := Fr.front (g := g7) (H.drewN 1) (by repeat (first | exact Take.head | apply Take.tail))
          have H2 := Fr.front (g := g) H1 (by repeat (first | exact Take.head | apply Take.tail))
          have H3 := Fr.front (g := h) H2 (by repeat (first | exact Take.head | apply Take.tail))
          have H4 := Fr.sublist H3 (List.Sublist.cons_cons _ (List.Sublist.cons_cons _ (List.Sublist.cons_cons _ (List.nil_sublist _))))
          clear HS0 H H1 H2 H3
          have H := H4
          clear H4
          repeat (first
            | ((with_reducible refine rz_load (ty := 38) rfl ?_); refine ro_sub HS (m := 6) rfl (by kernel_rfl) (fun _ _ _ h => h) (by rfl) (by rfl) (by repeat (first | exact At.head | apply At.tail)) Try.underlying38 rfl (by kernel_rfl) (by simp only [List.toList_toArray, List.drop_succ_cons, List.drop_zero, List.take_succ_cons, List.take_zero]; rfl) (by rfl) ?_; (try simp only [Act.put, List.setIfInBounds_toArray, List.set_cons_zero, List.set_cons_succ, Nat.reduceAdd]))
            | (refine ro_pure (by kernel_rfl) (fun _ _ _ h => h) (by rfl) (fun W K hK => by go_simp; exact hK.out) ?_; (try simp only [Act.put, List.setIfInBounds_toArray, List.set_cons_zero, List.set_cons_succ, Nat.reduceAdd])))
          refine ro_two (u1 := undef) (u2 := undef) (x0 := undef) (y0 := undef) (z1 := #[.int .i64 0, .int .i64 0, .int .i64 0, .int .i64 0, .int .i64 0, .int .i64 0, .bool false, .bool false, .int .i64 0, .int .i64 0, .int .i64 0, .int .i64 0, .int .i64 0, .slice none 0 0]) (z2 := #[.int .i64 0, .int .i64 0, .int .i64 0, .int .i64 0, .int .i64 0, .int .i64 0, .bool false, .bool false, .int .i64 0, .int .i64 0, .int .i64 0, .int .i64 0, .int .i64 0, .slice none 0 0]) (t1 := 43) (t2 := 43) 36 39 11 12 (fun v bl => ∃ A3 c3 A4 c4, v = .agg #[.int .i64 1, .int .i64 0, .int .i64 yla, .int .i64 yha, .int .i64 yhea, .int .i64 yhpa, .bool yga, .bool rd, .int .i64 q1, .int .i64 q2, .int .i64 pa, .int .i64 ysta, .int .i64 ysna, .slice A4 ytba.length c4] ∧ bl = [(h, .cells #[.int .i64 p.N, .int .i64 p.F, .int .i64 p.D, .int .i64 p.Be, .int .i64 p.Rho, .int .i64 p.De, .int .i64 p.Ji, .int .i64 p.Eps, .int .i64 p.Mu, .int .i64 p.Ho, .int .i64 p.Pu, .int .i64 p.Se, .int .i64 xlb, .int .i64 xhb, .int .i64 xtb, .bool xeb, .int .i64 xheb, .int .i64 xhpb, .bool xgb, .slice A2 xtbb.length c2, .int .i64 xstb, .int .i64 xsnb, .int .i64 xlfb, .int .i64 0] 52 (0, 0)), (g, .cells #[.int .i64 p.N, .int .i64 p.F, .int .i64 p.D, .int .i64 p.Be, .int .i64 p.Rho, .int .i64 p.De, .int .i64 p.Ji, .int .i64 p.Eps, .int .i64 p.Mu, .int .i64 p.Ho, .int .i64 p.Pu, .int .i64 p.Se, .int .i64 yla, .int .i64 yha, .int .i64 yta, .bool yea, .int .i64 yhea, .int .i64 yhpa, .bool yga, .slice A3 ytba.length c3, .int .i64 ysta, .int .i64 ysna, .int .i64 ylfa, .int .i64 0] 52 (0, 0)), (g7, .cells #[.int .i64 ticks, .slice Ah nh ch, .bool ref, .int .i64 reading, .bool given, .slice Ax nt ct] 38 (0, 0))]) (fun v v2 bl => ∃ A3 c3 A4 c4 A5 c5 A6 c6, v = .agg #[.int .i64 1, .int .i64 0, .int .i64 yla, .int .i64 yha, .int .i64 yhea, .int .i64 yhpa, .bool yga, .bool rd, .int .i64 q1, .int .i64 q2, .int .i64 pa, .int .i64 ysta, .int .i64 ysna, .slice A4 ytba.length c4] ∧ v2 = .agg #[.int .i64 1, .int .i64 0, .int .i64 ylb, .int .i64 yhb, .int .i64 yheb, .int .i64 yhpb, .bool ygb, .bool rd, .int .i64 q1, .int .i64 q2, .int .i64 pb, .int .i64 ystb, .int .i64 ysnb, .slice A6 ytbb.length c6] ∧ bl = [(h, .cells #[.int .i64 p.N, .int .i64 p.F, .int .i64 p.D, .int .i64 p.Be, .int .i64 p.Rho, .int .i64 p.De, .int .i64 p.Ji, .int .i64 p.Eps, .int .i64 p.Mu, .int .i64 p.Ho, .int .i64 p.Pu, .int .i64 p.Se, .int .i64 ylb, .int .i64 yhb, .int .i64 ytb, .bool yeb, .int .i64 yheb, .int .i64 yhpb, .bool ygb, .slice A5 ytbb.length c5, .int .i64 ystb, .int .i64 ysnb, .int .i64 ylfb, .int .i64 0] 52 (0, 0)), (g, .cells #[.int .i64 p.N, .int .i64 p.F, .int .i64 p.D, .int .i64 p.Be, .int .i64 p.Rho, .int .i64 p.De, .int .i64 p.Ji, .int .i64 p.Eps, .int .i64 p.Mu, .int .i64 p.Ho, .int .i64 p.Pu, .int .i64 p.Se, .int .i64 yla, .int .i64 yha, .int .i64 yta, .bool yea, .int .i64 yhea, .int .i64 yhpa, .bool yga, .slice A3 ytba.length c3, .int .i64 ysta, .int .i64 ysna, .int .i64 ylfa, .int .i64 0] 52 (0, 0)), (g7, .cells #[.int .i64 ticks, .slice Ah nh ch, .bool ref, .int .i64 reading, .bool given, .slice Ax nt ct] 38 (0, 0))]) H (by kernel_rfl) rfl (by decide) (by intros; simp only [acT, Act.put, List.setIfInBounds_toArray, List.set_cons_zero, List.set_cons_succ])
            (by intros; simp only [acT, Act.put, List.setIfInBounds_toArray, List.set_cons_zero, List.set_cons_succ]; rfl) (by intros; simp only [acT, Act.put, List.setIfInBounds_toArray, List.set_cons_zero, List.set_cons_succ]; rfl) (by intros; simp only [acT, Act.put, List.setIfInBounds_toArray, List.set_cons_zero, List.set_cons_succ]; rfl) (by intros; simp only [acT, Act.put, List.setIfInBounds_toArray, List.set_cons_zero, List.set_cons_succ]; rfl)
            (by intros; simp only [acT, Act.put, List.setIfInBounds_toArray, List.set_cons_zero, List.set_cons_succ]) (by intros; simp only [acT, Act.put, List.setIfInBounds_toArray, List.set_cons_zero, List.set_cons_succ]) (by intros; simp only [acT, Act.put, List.setIfInBounds_toArray, List.set_cons_zero, List.set_cons_succ]) (by intros; simp only [acT, Act.put, List.setIfInBounds_toArray, List.set_cons_zero, List.set_cons_succ])
            (fun v1 v2 Y W K hK => by go_simp; exact hK.out) (fun v1 v2 X W K hK => by go_simp; exact hK.out)
            (fun E W H => Fr.only H (At.app (by repeat (first | exact At.head | apply At.tail)) E) (fun _ h => h.1.1)) (by rintro v1 bl1 ⟨A3, c3, A4, c4, rfl, rfl⟩ E W H; exact Fr.only H (At.app (by repeat (first | exact At.head | apply At.tail)) E) (fun _ h => h.1.1)) (by rintro v1 v2 bl1 ⟨A3, c3, A4, c4, A5, c5, A6, c6, rfl, rfl, rfl⟩ E W H; exact Fr.only H (At.app (by repeat (first | exact At.head | apply At.tail)) E) (fun _ h => h.1.1))
            ?k1 ?k2 ?hend
          case k1 =>
            intro E W X Y K H hK
            have HT : Tr (fun k => k = g) W (fun W => pFo Ah heard Ax ttab Aa tba Ab tbb W ∧ W.ownsRow w.heap.size 82 2 (.slice A1 xtba.length c1) xtba.length (flL xtba)) := Foot.imp (Fr.trAt H (At.app (by repeat (first | exact At.head | apply At.tail)) E)) (fun _ h => ⟨h.1.1, h.1.2⟩)
            refine wp_enter 10 _ rfl Try.func10 (by kernel_rfl) rfl (by simp only [acT, Act.put, List.setIfInBounds_toArray, List.set_cons_zero, List.set_cons_succ, List.map_toArray, List.map_cons, List.map_nil]; rfl) ?_
            refine (KBA'.out W g A1 c1 (H.of (At.app (by repeat (first | exact At.head | apply At.tail)) E)) HT).mono ?_
            rintro e w' ⟨A3, c3, A4, c4, rfl, hb, hc⟩
            exact ⟨_, rfl, hK _ _ _ ⟨A3, c3, A4, c4, rfl, rfl⟩ (H.turn (At.app (by repeat (first | exact At.head | apply At.tail)) E) hb hc)⟩
          case k2 =>
            rintro v1 bl1 ⟨A3, c3, A4, c4, rfl, rfl⟩ E W X Y K H hK
            have HT : Tr (fun k => k = h) W (fun W => pFo Ah heard Ax ttab Aa tba Ab tbb W ∧ W.ownsRow w.heap.size 82 2 (.slice A2 xtbb.length c2) xtbb.length (flL xtbb)) := Foot.imp (Fr.trAt H (At.app (by repeat (first | exact At.head | apply At.tail)) E)) (fun _ h => ⟨h.1.1, h.2⟩)
            refine wp_enter 10 _ rfl Try.func10 (by kernel_rfl) rfl (by simp only [acT, Act.put, List.setIfInBounds_toArray, List.set_cons_zero, List.set_cons_succ, List.map_toArray, List.map_cons, List.map_nil]; rfl) ?_
            refine (KBB'.out W h A2 c2 (H.of (At.app (by repeat (first | exact At.head | apply At.tail)) E)) HT).mono ?_
            rintro e w' ⟨A5, c5, A6, c6, rfl, hb, hc⟩
            exact ⟨_, rfl, hK _ _ _ ⟨A3, c3, A4, c4, A5, c5, A6, c6, rfl, rfl, rfl⟩ (H.turn (At.app (by repeat (first | exact At.head | apply At.tail)) E) hb hc)⟩
          case hend =>
            rintro v1 v2 bl2 g11 g12 W ⟨A3, c3, A4, c4, A5, c5, A6, c6, rfl, rfl, rfl⟩ HE
            clear H
            have H := HE
            clear HE
            unfold ptrT
            simp only [acT, Act.put, List.setIfInBounds_toArray, List.set_cons_zero, List.set_cons_succ]
            repeat (first
              | ((with_reducible refine rz_store (ty := 43) rfl ?_); refine ro_set H (u := .agg (List.toArray _)) rfl rfl (by kernel_rfl) (by kernel_rfl) (by rfl) (by rfl) (by rfl) (by repeat (first | exact At.head | apply At.tail)) (Nat.le_of_ble_eq_true rfl) (by simp only [Value.cells, List.take_succ_cons, List.take_zero, List.drop_succ_cons, List.drop_zero, List.cons_append, List.nil_append, List.size_toArray, List.length_cons, List.length_nil, Nat.reduceAdd, List.append_nil, List.drop_nil, List.take_nil, List.toList_toArray]; rfl) (by kernel_rfl) (by simp [Value.cells, Value.oneCell']) ?_; intro w1 H1; clear H; have H := H1; clear H1; (try simp only [Act.put, List.setIfInBounds_toArray, List.set_cons_zero, List.set_cons_succ, Nat.reduceAdd])))
            refine ro_done (by kernel_rfl) ?_
            go_wp2
            go_meet
            case rel =>
              have H1 := Fr.front (g := g) H (by repeat (first | exact Take.head | apply Take.tail))
              have H2 := Fr.front (g := h) H1 (by repeat (first | exact Take.head | apply Take.tail))
              have H3 := Fr.front (g := g11) H2 (by repeat (first | exact Take.head | apply Take.tail))
              have H4 := Fr.front (g := g12) H3 (by repeat (first | exact Take.head | apply Take.tail))
              exact ⟨g11, g12, A3, A4, A5, A6, c3, c4, c5, c6, rfl, rfl, (Fr.sublist H4 (List.Sublist.cons_cons _ (List.Sublist.cons_cons _ (List.Sublist.cons_cons _ (List.Sublist.cons_cons _ (List.nil_sublist _)))))).imp (fun _ _ => trivial)⟩
        case rest =>
          obtain ⟨g11, g12, A3, A4, A5, A6, c3, c4, c5, c6, rfl, rfl, H1⟩ := hcut
          clear H
          have H := H1
          clear H1
          by_cases hq : ¬ (yhea ≠ 0 ∧ yheb ≠ 0)
          · obtain ⟨e1, e2, e3, e4, e5⟩ := HFO.out hq
            subst e1 e2 e3 e4 e5
            by_cases hz : yhea = 0
            · have hz1 : (yhea != 0) = false := by rw [hz]; rfl
              clear hq hz
              go_upto_region 9 with (first
                | ((with_reducible refine gate_dst (N := 45) rfl ?_); refine fr_get H rfl rfl rfl (by repeat (first | exact At.head | apply At.tail)) Try.underlying3 rfl (by simp only [List.getElem?_toArray, List.getElem?_cons_succ, List.getElem?_cons_zero]; rfl) ?_)
                | ((with_reducible refine gate_dst (N := 53) rfl ?_); (try (refine gate_guard (by rfl) ?_; dsimp only)); refine fr_get H rfl rfl rfl (by repeat (first | exact At.head | apply At.tail)) Try.underlying3 rfl (by simp only [List.getElem?_toArray, List.getElem?_cons_succ, List.getElem?_cons_zero]; rfl) ?_)
                | fail)
              refine ko_region0 H (by kernel_rfl) (by kernel_rfl) (fun HR => ?_)
              repeat (first
                | ((with_reducible refine kg_dst (N := 4) rfl ?_); refine ko_var rfl (by rfl) (fun W K hK => by go_simp; exact hK.out) ?_; intro g4; (try simp only [Act.put, List.setIfInBounds_toArray, List.set_cons_zero, List.set_cons_succ, Nat.reduceAdd]))
                | ((with_reducible refine kg_dst (N := 5) rfl ?_); refine ko_var rfl (by rfl) (fun W K hK => by go_simp; exact hK.out) ?_; intro g5; (try simp only [Act.put, List.setIfInBounds_toArray, List.set_cons_zero, List.set_cons_succ, Nat.reduceAdd]))
                | ((with_reducible refine kg_dst (N := 6) rfl ?_); refine ko_var rfl (by rfl) (fun W K hK => by go_simp; exact hK.out) ?_; intro g6; (try simp only [Act.put, List.setIfInBounds_toArray, List.set_cons_zero, List.set_cons_succ, Nat.reduceAdd]))
                | ((with_reducible refine kg_dst (N := 7) rfl ?_); refine ko_var rfl (by rfl) (fun W K hK => by go_simp; exact hK.out) ?_; intro g7; (try simp only [Act.put, List.setIfInBounds_toArray, List.set_cons_zero, List.set_cons_succ, Nat.reduceAdd]))
                | ((with_reducible refine kg_load (ty := 23) rfl ?_); refine ko_sub HR (n := 12) rfl (by rfl) (by rfl) (by repeat (first | exact At.head | apply At.tail)) Try.underlying23 rfl (by kernel_rfl) (by simp only [List.toList_toArray, List.drop_succ_cons, List.drop_zero, List.take_succ_cons, List.take_zero]; rfl) (by rfl) ?_; (try simp only [Act.put, List.setIfInBounds_toArray, List.set_cons_zero, List.set_cons_succ, Nat.reduceAdd]))
                | ((with_reducible refine kg_load (ty := 30) rfl ?_); refine ko_sub HR (n := 11) rfl (by rfl) (by rfl) (by repeat (first | exact At.head | apply At.tail)) Try.underlying30 rfl (by kernel_rfl) (by simp only [List.toList_toArray, List.drop_succ_cons, List.drop_zero, List.take_succ_cons, List.take_zero]; rfl) (by rfl) ?_; (try simp only [Act.put, List.setIfInBounds_toArray, List.set_cons_zero, List.set_cons_succ, Nat.reduceAdd]))
                | ((with_reducible refine kg_load (ty := 38) rfl ?_); refine ko_sub HR (n := 6) rfl (by rfl) (by rfl) (by repeat (first | exact At.head | apply At.tail)) Try.underlying38 rfl (by kernel_rfl) (by simp only [List.toList_toArray, List.drop_succ_cons, List.drop_zero, List.take_succ_cons, List.take_zero]; rfl) (by rfl) ?_; (try simp only [Act.put, List.setIfInBounds_toArray, List.set_cons_zero, List.set_cons_succ, Nat.reduceAdd]))
                | ((with_reducible refine kg_dst (N := 21) rfl ?_); refine ko_row rfl (by rfl) (fun W K hK => by go_simp; exact hK.out) ?_; intro x21; (try simp only [Act.put, List.setIfInBounds_toArray, List.set_cons_zero, List.set_cons_succ, Nat.reduceAdd]))
                | ((with_reducible refine kg_dst (N := 11) rfl ?_); refine ko_var rfl (by rfl) (fun W K hK => by go_simp; exact hK.out) ?_; intro g11; (try simp only [Act.put, List.setIfInBounds_toArray, List.set_cons_zero, List.set_cons_succ, Nat.reduceAdd]))
                | ((with_reducible refine kg_dst (N := 12) rfl ?_); refine ko_var rfl (by rfl) (fun W K hK => by go_simp; exact hK.out) ?_; intro g12; (try simp only [Act.put, List.setIfInBounds_toArray, List.set_cons_zero, List.set_cons_succ, Nat.reduceAdd]))
                | ((with_reducible refine kg_store (ty := 43) rfl ?_); refine ko_put (u := .agg (List.toArray _)) rfl rfl (by rfl) (by rfl) (by rfl) (by repeat (first | exact VarAt.head | apply VarAt.tail)) (by kernel_rfl) (Nat.le_of_ble_eq_true rfl) (by simp only [Value.cells, List.take_succ_cons, List.take_zero, List.drop_succ_cons, List.drop_zero, List.cons_append, List.nil_append, List.length_cons, List.length_nil, Nat.reduceAdd, List.append_nil, List.drop_nil, List.take_nil]; rfl) (by repeat (first | exact VarAt.head | apply VarAt.tail)) (by simp [apartR, Value.cells]) (by kernel_rfl) (by simp [Value.cells, Value.oneCell']) ?_; (try simp only [Value.cells, List.length_cons, List.length_nil, Nat.reduceAdd]))
                | ((with_reducible refine kg_load (ty := 3) rfl ?_); refine ko_get HR rfl (by rfl) (by rfl) (by repeat (first | exact At.head | apply At.tail)) Try.underlying3 rfl (by simp only [List.getElem?_toArray, List.getElem?_cons_succ, List.getElem?_cons_zero]; rfl) ?_; (try simp only [Act.put, List.setIfInBounds_toArray, List.set_cons_zero, List.set_cons_succ, Nat.reduceAdd]))
                | ((with_reducible refine kg_load (ty := 25) rfl ?_); refine ko_sub HR (n := 2) rfl (by rfl) (by rfl) (by repeat (first | exact At.head | apply At.tail)) Try.underlying25 rfl (by kernel_rfl) (by simp only [List.toList_toArray, List.drop_succ_cons, List.drop_zero, List.take_succ_cons, List.take_zero]; rfl) (by rfl) ?_; (try simp only [Act.put, List.setIfInBounds_toArray, List.set_cons_zero, List.set_cons_succ, Nat.reduceAdd]))
                | ((with_reducible refine kg_load (ty := 4) rfl ?_); refine ko_get HR rfl (by rfl) (by rfl) (by repeat (first | exact At.head | apply At.tail)) Try.underlying4 rfl (by simp only [List.getElem?_toArray, List.getElem?_cons_succ, List.getElem?_cons_zero]; rfl) ?_; (try simp only [Act.put, List.setIfInBounds_toArray, List.set_cons_zero, List.set_cons_succ, Nat.reduceAdd]))
                | (refine ko_pure rfl (by rfl) (fun W K hK => by go_simp; exact hK.out) ?_; (try simp only [Act.put, List.setIfInBounds_toArray, List.set_cons_zero, List.set_cons_succ, Nat.reduceAdd]))
                | (refine ko_off (by rfl) ?_; (try simp only [Act.put, List.setIfInBounds_toArray, List.set_cons_zero, List.set_cons_succ, Nat.reduceAdd])))
              refine ko_end ?_
              intro w1 H1
              clear HR H
              have H := H1
              clear H1
              (try simp only [List.map_cons, List.map_nil, cv, List.cons_append, List.nil_append] at H)
              go_wp2
              go_ret
              exact ⟨rfl, H.below⟩
            · exact absurd ⟨hz, hz⟩ hq
          · have hq1 : yhea ≠ 0 ∧ yheb ≠ 0 := Classical.not_not.1 hq
            have hz1 : (yhea != 0) = true := by simpa using hq1.1
            have hz2 : (yheb != 0) = true := by simpa using hq1.2
            clear hq hq1
            go_wp2_with (first
              | ((with_reducible refine gate_dst (N := 45) rfl ?_); refine fr_get H rfl rfl rfl (by repeat (first | exact At.head | apply At.tail)) Try.underlying3 rfl (by simp only [List.getElem?_toArray, List.getElem?_cons_succ, List.getElem?_cons_zero]; rfl) ?_)
              | ((with_reducible refine gate_dst (N := 53) rfl ?_); (try (refine gate_guard (by rfl) ?_; dsimp only)); refine fr_get H rfl rfl rfl (by repeat (first | exact At.head | apply At.tail)) Try.underlying3 rfl (by simp only [List.getElem?_toArray, List.getElem?_cons_succ, List.getElem?_cons_zero]; rfl) ?_)
              | fail)
            go_ret
            exact ⟨rfl, H.below⟩
end Go.Proofs.Ytbmfgcekglgliaa.G

namespace Go.Proofs.Ytbmfgcekglgliaa.G
open Go.RowKit Go.Proofs.YtbmfgcekglgliaaW.PrintWords Go.Proofs.YtbmfgcekglgliaaW.PrintLast Go.Proofs.YtbmfgcekglgliaaW.PrintMore Go.Proofs.YtbmfgcekglgliaaPl Go.Proofs.YtbmfgcekglgliaaEm Go.Proofs.YtbmfgcekglgliaaKr Go.Proofs.YtbmfgcekglgliaaRz Go.Proofs.Ytbmfgcekglgliaa.X
set_option linter.unusedVariables false
theorem RowH.tr {w : World} {A : Option Addr} {l : List Hd} (h : RowH w A l) : Tr (fun _ => False) w (fun W => RowH W A l) := by
  intro W' hW k hk
  obtain ⟨ad, e, hc⟩ := h k hk
  refine ⟨ad, e, fun j u hu => ?_⟩
  have h5 := hc j u hu
  have h6 := World.block_lt_of_cell? w _ h5
  have hb := hW _ (fun q => q) h6
  rw [show W'.cell? ((ad.add (k * 15)).add j) = w.cell? ((ad.add (k * 15)).add j) by simp [World.cell?, hb]]
  exact h5
theorem clepsydralaw22_GateForgets.calls (a0_0 a0_1 a0_2 a0_3 a0_4 a0_5 a0_6 a0_7 a0_8 a0_9 a0_10 a0_11 : Int) (a1_0 a1_1 a1_2 : Int) (a1_3 : Bool) (a1_4 a1_5 : Int) (a1_6 : Bool) (A1_7 : Option Addr) (c1_7 : Nat) (l1_7 : List Lp) (a1_8 a1_9 a1_10 : Int) (a2_0 a2_1 a2_2 : Int) (a2_3 : Bool) (a2_4 a2_5 : Int) (a2_6 : Bool) (A2_7 : Option Addr) (c2_7 : Nat) (l2_7 : List Lp) (a2_8 a2_9 a2_10 : Int) (a3_0 : Int) (A3_1 : Option Addr) (c3_1 : Nat) (l3_1 : List Hrd) (a3_2 : Bool) (a3_3 : Int) (a3_4 : Bool) (A3_5 : Option Addr) (c3_5 : Nat) (l3_5 : List Lp) (w : World) (hr1 : Kd.C k82 w A1_7 l1_7.length l1_7) (hc1 : l1_7.length ≤ c1_7) (hr2 : Kd.C k82 w A2_7 l2_7.length l2_7) (hc2 : l2_7.length ≤ c2_7) (hr3 : Kd.C k45 w A3_1 l3_1.length l3_1) (hc3 : l3_1.length ≤ c3_1) (hr5 : Kd.C k82 w A3_5 l3_5.length l3_5) (hc5 : l3_5.length ≤ c3_5) :
    Calls Try.prog 5 #[.agg #[.int .i64 a0_0, .int .i64 a0_1, .int .i64 a0_2, .int .i64 a0_3, .int .i64 a0_4, .int .i64 a0_5, .int .i64 a0_6, .int .i64 a0_7, .int .i64 a0_8, .int .i64 a0_9, .int .i64 a0_10, .int .i64 a0_11], .agg #[.int .i64 a1_0, .int .i64 a1_1, .int .i64 a1_2, .bool a1_3, .int .i64 a1_4, .int .i64 a1_5, .bool a1_6, .slice A1_7 l1_7.length c1_7, .int .i64 a1_8, .int .i64 a1_9, .int .i64 a1_10], .agg #[.int .i64 a2_0, .int .i64 a2_1, .int .i64 a2_2, .bool a2_3, .int .i64 a2_4, .int .i64 a2_5, .bool a2_6, .slice A2_7 l2_7.length c2_7, .int .i64 a2_8, .int .i64 a2_9, .int .i64 a2_10], .agg #[.int .i64 a3_0, .slice A3_1 l3_1.length c3_1, .bool a3_2, .int .i64 a3_3, .bool a3_4, .slice A3_5 l3_5.length c3_5]] w fun e w' => e = .returned (.bool true) ∧ Below w.heap.size w w' := by
  obtain ⟨hs, hlen, _, hrow⟩ := rowH_in hr3
  have := Forgets_calls ⟨a0_0, a0_1, a0_2, a0_3, a0_4, a0_5, a0_6, a0_7, a0_8, a0_9, a0_10, a0_11⟩ ⟨a1_0, a1_1, a1_2, a1_3, a1_4, a1_5, a1_6, l1_7, a1_8, a1_9, a1_10⟩ ⟨a2_0, a2_1, a2_2, a2_3, a2_4, a2_5, a2_6, l2_7, a2_8, a2_9, a2_10⟩ A1_7 c1_7 A2_7 c2_7 ⟨a3_0, hs, a3_2, a3_3, a3_4, l3_5⟩ A3_1 c3_1 A3_5 c3_5 w (Tr.and (RowH.tr hrow) (Tr.and (Go.Proofs.YtbmfgcekglgliaaEv.Tr.of_C hr5 k82_heap) (Tr.and (Go.Proofs.YtbmfgcekglgliaaEv.Tr.of_C hr1 k82_heap) (Go.Proofs.YtbmfgcekglgliaaEv.Tr.of_C hr2 k82_heap)))) (by rw [hlen]; exact hr3.2.1)
  rw [hlen] at this
  exact this
end Go.Proofs.Ytbmfgcekglgliaa.G
