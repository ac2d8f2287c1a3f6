/- Texts Ng, Na, Ni, Nh, Nj, in one file, without what is not needed here. -/
import Derived.Test.YtdaohldmojpihaaGreatDoorZNodeForgets9
namespace Go.Proofs.YtdaohldmojpihaaGreatDoor.G
open Go.RowKit Go.Proofs.YtdaohldmojpihaaGreatDoorW.PrintWords Go.Proofs.YtdaohldmojpihaaGreatDoorW.PrintLast Go.Proofs.YtdaohldmojpihaaGreatDoorW.PrintMore Go.Proofs.YtdaohldmojpihaaGreatDoorPl Go.Proofs.YtdaohldmojpihaaGreatDoorEm Go.Proofs.YtdaohldmojpihaaGreatDoorKr Go.Proofs.YtdaohldmojpihaaGreatDoorRz Go.Proofs.YtdaohldmojpihaaGreatDoor.X Go.Proofs.YtdaohldmojpihaaGreatDoorAy
open Go.Proofs.YtdaohldmojpihaaGreatDoor.Mb (Tab FT atF hearF tickF nums GoodF Ab nearE)
set_option linter.unusedVariables false
set_option linter.unusedSimpArgs false
set_option maxRecDepth 100000 in
set_option maxHeartbeats 40000000 in
theorem NBeat_calls (p : Par) (hPD : 0 ≤ p.D ∧ p.D ≤ 4096) (me : Int) (s : St) (A : Option Addr) (c g t b : Nat) (f : FT) (ta : Option Addr → Nat → List Lp) (ticks : Int) (heard : List Hd) (Ah : Option Addr) (ch : Nat) (ref : Bool) (reading : Int) (given : Bool) (Ax : Option Addr) (xn xc : Nat) (w : World) (hg : w.heap[g]? = some (.cells #[.int .i64 p.N, .int .i64 p.F, .int .i64 p.D, .int .i64 p.Be, .int .i64 p.Rho, .int .i64 p.De, .int .i64 p.Ji, .int .i64 p.Eps, .int .i64 p.Mu, .int .i64 p.Ho, .int .i64 p.Pu, .int .i64 p.Se, .int .i64 s.lo, .int .i64 s.hi, .int .i64 s.time, .bool s.set, .int .i64 s.held, .int .i64 s.hops, .bool s.good, .slice A s.tab.length c, .int .i64 s.st, .int .i64 s.sn, .int .i64 s.life, .int .i64 me, .pointer (some ⟨t, 0, none⟩)] 53 (0, 0))) (hT : Tab w t b f) (hgd : GoodF f) (hr : Tr (ndM b t g) w (pcB ta Ah heard A s.tab)) (ho : tbOk (tbH ta) heard) (hl : heard.length ≤ 4096) (hls : s.tab.length ≤ 4096) (hwf : ∀ h ∈ heard, -9223372036854775808 ≤ h.frm ∧ h.frm ≤ 9223372036854775807) :
    Calls Tryz.prog 13 #[.pointer (some ⟨g, 0, none⟩), .agg #[.int .i64 ticks, .slice Ah heard.length ch, .bool ref, .int .i64 reading, .bool given, .slice Ax xn xc]] w fun e w' => ∃ z l A1 c1 A2 c2, l = (knP me f heard).1 ∧ z = beatN0 p ta l s ticks ∧ e = .returned (.agg #[.int .i64 2, .int .i64 me, .int .i64 z.lo, .int .i64 z.hi, .int .i64 z.held, .int .i64 z.hops, .bool z.good, .bool false, .int .i64 0, .int .i64 0, .int .i64 (pulseS p z), .int .i64 (tickP z.st z.sn z.time).1, .int .i64 (tickP z.st z.sn z.time).2, .slice A2 z.tab.length c2]) ∧ w'.heap[g]? = some (.cells #[.int .i64 p.N, .int .i64 p.F, .int .i64 p.D, .int .i64 p.Be, .int .i64 p.Rho, .int .i64 p.De, .int .i64 p.Ji, .int .i64 p.Eps, .int .i64 p.Mu, .int .i64 p.Ho, .int .i64 p.Pu, .int .i64 p.Se, .int .i64 z.lo, .int .i64 z.hi, .int .i64 z.time, .bool z.set, .int .i64 z.held, .int .i64 z.hops, .bool z.good, .slice A1 z.tab.length c1, .int .i64 (tickP z.st z.sn z.time).1, .int .i64 (tickP z.st z.sn z.time).2, .int .i64 z.life, .int .i64 me, .pointer (some ⟨t, 0, none⟩)] 53 (0, 0)) ∧ Tab w' t b (tickF 2 (knP me f heard).2) ∧ w'.ownsRow w.heap.size 72 2 (.slice A1 z.tab.length c1) z.tab.length (flL z.tab) ∧ w'.ownsRow w.heap.size 72 2 (.slice A2 z.tab.length c2) z.tab.length (flL z.tab) ∧ z.tab.length ≤ 4096 ∧ Chg (ndM b t g) w w' := by
  obtain ⟨ob, hOb, H0⟩ := nd_start hT hg hr
  have H := Fr.starts H0
  have HR0 := Lib.hid hr
  have HOK := Lib.hid ho
  have HPD := Lib.hid hPD
  have HTO := Lib.hid hOb
  have HGD := Lib.hid hgd
  have HWF := Lib.hid hwf
  obtain ⟨⟨kl, f1⟩, hkn⟩ : ∃ y, knP me f heard = y := ⟨_, rfl⟩
  obtain ⟨nk, hnk⟩ : ∃ n, kl.length = n := ⟨_, rfl⟩
  have HKN := Lib.hid hkn
  have hokl : tbOk (tbH ta) kl := fun x hx => ho x (kn_mem me f heard x (by rw [hkn]; exact hx))
  have hnk2 : nk ≤ 4096 := by have := knP_len me f heard; rw [hkn] at this; dsimp only at this; omega
  have KKn : Hid (∀ W o, TabO b f o → W.heap[g]? = some (.cells #[.int .i64 p.N, .int .i64 p.F, .int .i64 p.D, .int .i64 p.Be, .int .i64 p.Rho, .int .i64 p.De, .int .i64 p.Ji, .int .i64 p.Eps, .int .i64 p.Mu, .int .i64 p.Ho, .int .i64 p.Pu, .int .i64 p.Se, .int .i64 s.lo, .int .i64 s.hi, .int .i64 s.time, .bool s.set, .int .i64 s.held, .int .i64 s.hops, .bool s.good, .slice A s.tab.length c, .int .i64 s.st, .int .i64 s.sn, .int .i64 s.life, .int .i64 me, .pointer (some ⟨t, 0, none⟩)] 53 (0, 0)) → W.heap[t]? = some (tabC b) → W.heap[b]? = some o → Tr (ndM b t g) W (pcB ta Ah heard A s.tab) → Calls Tryz.prog 30 #[.pointer (some ⟨g, 0, none⟩), .slice Ah heard.length ch] W fun e w' => ∃ Ao co, e = .returned (.slice Ao nk co) ∧ w'.ownsRow W.heap.size 45 15 (.slice Ao nk co) nk (flH kl) ∧ Tab w' t b f1 ∧ Chg (fun k => k = b) W w') := Lib.hid (fun W o h1 h2 h3 h4 h5 => by
    have := known_calls p me s A c g t b f Ah ch heard W h2 (h1.tab h3 h4) (Foot.imp h5 (fun _ h => h.1)) hl hwf
    rw [hkn] at this
    dsimp only at this
    rw [hnk] at this
    exact this)
  obtain ⟨y1, hy1⟩ : ∃ y, coreS p (tbH ta) kl s = y := ⟨_, rfl⟩
  obtain ⟨y2, hy2⟩ : ∃ y, folS p ta kl s = y := ⟨_, rfl⟩
  obtain ⟨y, hy⟩ : ∃ y, nextN p ta kl s ticks = y := ⟨_, rfl⟩
  obtain ⟨cb, hcb⟩ : ∃ y, coreB p kl = y := ⟨_, rfl⟩
  obtain ⟨fb, hfb⟩ : ∃ y, folB p kl = y := ⟨_, rfl⟩
  have hlen := next_len (p := p) (ticks := ticks) hokl hls
  rw [hy1, hy2, hy] at hlen
  have HYE : Hid (y = if cb = true then y1 else if fb = true then y2 else lostS p s ticks) := Lib.hid (by rw [← hy, ← hy1, ← hy2, ← hcb, ← hfb]; rfl)
  have HYB : Hid (beatN0 p ta kl s ticks = lisN p kl (stepS p s ticks y)) := Lib.hid (by unfold beatN0; rw [hy])
  have HC0 : Hid (cb = false → y1 = s) := Lib.hid (fun h => by rw [← hy1]; exact core_none (hcb.trans h))
  have KCore : Hid (∀ W (D : Nat → Prop) Al cl, W.heap[g]? = some (.cells #[.int .i64 p.N, .int .i64 p.F, .int .i64 p.D, .int .i64 p.Be, .int .i64 p.Rho, .int .i64 p.De, .int .i64 p.Ji, .int .i64 p.Eps, .int .i64 p.Mu, .int .i64 p.Ho, .int .i64 p.Pu, .int .i64 p.Se, .int .i64 s.lo, .int .i64 s.hi, .int .i64 s.time, .bool s.set, .int .i64 s.held, .int .i64 s.hops, .bool s.good, .slice A s.tab.length c, .int .i64 s.st, .int .i64 s.sn, .int .i64 s.life, .int .i64 me, .pointer (some ⟨t, 0, none⟩)] 53 (0, 0)) → D g → (∀ k, D k → k < W.heap.size) → Tr D W (pcN (tbH ta) Al kl A s.tab) → Calls Tryz.prog 32 #[.pointer (some ⟨g, 0, none⟩), .slice Al nk cl, .agg #[.int .i64 s.lo, .int .i64 s.hi, .int .i64 s.time, .bool s.set, .int .i64 s.held, .int .i64 s.hops, .bool s.good, .slice A s.tab.length c, .int .i64 s.st, .int .i64 s.sn, .int .i64 s.life]] W fun e w' => ∃ A3 c3, e = .returned (.tuple #[.agg #[.int .i64 y1.lo, .int .i64 y1.hi, .int .i64 y1.time, .bool y1.set, .int .i64 y1.held, .int .i64 y1.hops, .bool y1.good, .slice A3 y1.tab.length c3, .int .i64 y1.st, .int .i64 y1.sn, .int .i64 y1.life], .bool cb]) ∧ Below W.heap.size W w' ∧ Tr D w' (fun W => Kd.C k72 W A3 y1.tab.length y1.tab)) := Lib.hid (fun W D Al cl h1 h2 h3 h4 => by
    have := core_calls p s A c g [.int .i64 me, .pointer (some ⟨t, 0, none⟩)] D (tbH ta) Al cl kl s A c W h1 ⟨h2, h3⟩ h4 hokl (by rw [hnk]; exact hnk2) hls
    rw [hnk, hy1, hcb] at this
    exact this)
  have KFol : Hid (∀ W (D : Nat → Prop) Al cl, W.heap[g]? = some (.cells #[.int .i64 p.N, .int .i64 p.F, .int .i64 p.D, .int .i64 p.Be, .int .i64 p.Rho, .int .i64 p.De, .int .i64 p.Ji, .int .i64 p.Eps, .int .i64 p.Mu, .int .i64 p.Ho, .int .i64 p.Pu, .int .i64 p.Se, .int .i64 s.lo, .int .i64 s.hi, .int .i64 s.time, .bool s.set, .int .i64 s.held, .int .i64 s.hops, .bool s.good, .slice A s.tab.length c, .int .i64 s.st, .int .i64 s.sn, .int .i64 s.life, .int .i64 me, .pointer (some ⟨t, 0, none⟩)] 53 (0, 0)) → D g → (∀ k, D k → k < W.heap.size) → Tr D W (pcN (tbH ta) Al kl A s.tab) → Calls Tryz.prog 33 #[.pointer (some ⟨g, 0, none⟩), .slice Al nk cl, .agg #[.int .i64 s.lo, .int .i64 s.hi, .int .i64 s.time, .bool s.set, .int .i64 s.held, .int .i64 s.hops, .bool s.good, .slice A s.tab.length c, .int .i64 s.st, .int .i64 s.sn, .int .i64 s.life]] W fun e w' => ∃ A3 c3, e = .returned (.tuple #[.agg #[.int .i64 y2.lo, .int .i64 y2.hi, .int .i64 y2.time, .bool y2.set, .int .i64 y2.held, .int .i64 y2.hops, .bool y2.good, .slice A3 y2.tab.length c3, .int .i64 y2.st, .int .i64 y2.sn, .int .i64 y2.life], .bool fb]) ∧ Below W.heap.size W w' ∧ Tr D w' (fun W => Kd.C k72 W A3 y2.tab.length y2.tab)) := Lib.hid (fun W D Al cl h1 h2 h3 h4 => by
    have := follow_calls p (by omega) s A c g [.int .i64 me, .pointer (some ⟨t, 0, none⟩)] D ta Al cl kl s A c W h1 ⟨h2, h3⟩ h4 hokl (by rw [hnk]; exact hnk2)
    rw [hnk, hy2, hfb] at this
    exact this)
  have HLEN := Lib.hid hlen
  have KTk : Hid (∀ W o, TabO b f1 o → W.heap[t]? = some (tabC b) → W.heap[b]? = some o → Calls Tryz.prog 31 #[.pointer (some ⟨t, 0, none⟩), .int .i64 2] W fun e w' => ∃ v, e = .returned v ∧ Hid (Tab w' t b (tickF 2 f1)) ∧ Hid (W.grownBy w' (some b))) := Lib.hid (fun W o h1 h2 h3 => (Mb.Tick_calls W t b f1 (h1.tab h2 h3) (by have := kn_good (me := me) heard hgd; rw [hkn] at this; exact this) 2).mono (fun e w' ⟨v, q1, _, q2, q3⟩ => ⟨v, q1, q2, q3⟩))
  obtain ⟨z, hz⟩ : ∃ z, (if cb = true then y1 else y2) = z := ⟨_, rfl⟩
  obtain ⟨kb, hkb⟩ : ∃ k, (cb || fb) = k := ⟨_, rfl⟩
  have HZ := Lib.hid (And.intro hz hkb)
  clear hz hkb
  have KLost : Hid (∀ W, Calls Tryz.prog 36 #[.agg #[.int .i64 p.N, .int .i64 p.F, .int .i64 p.D, .int .i64 p.Be, .int .i64 p.Rho, .int .i64 p.De, .int .i64 p.Ji, .int .i64 p.Eps, .int .i64 p.Mu, .int .i64 p.Ho, .int .i64 p.Pu, .int .i64 p.Se]] W fun e w' => e = .returned (.int .i64 (p.D + 1)) ∧ Below W.heap.size W w') := Lib.hid (fun W => Lost_calls p hPD W)
  have HSK := Lib.hid (show ∀ x ∈ kl, x ∈ heard from fun x hx => kn_mem me f heard x (by rw [hkn]; exact hx))
  clear hr ho hPD hOb hgd hwf H0 hkn hokl hy1 hy2 hy hcb hfb hlen hT hg hl hls
  obtain ⟨lo, hi, time, set, held, hops, good, tab, st, sn, life⟩ := s
  obtain ⟨nh, hnh⟩ : ∃ n, heard.length = n := ⟨_, rfl⟩
  obtain ⟨n, hn⟩ : ∃ n, tab.length = n := ⟨_, rfl⟩
  dsimp only at H KKn KCore KFol HR0 ⊢
  rw [hn] at H KKn KCore KFol
  rw [hnh] at KKn ⊢
  have HN := Lib.hid hn
  clear hn hnh
  go_enter Tryz.func13, Tryz.ntmps13
  go_upto_if 34 with (first
    | (go_at_call 30; (with_reducible refine (KKn.out _ _ HTO.out (H.of (by repeat (first | exact At.head | apply At.tail))) (H.of (by repeat (first | exact At.head | apply At.tail))) (H.of (by repeat (first | exact At.head | apply At.tail))) (Tr.later HR0.out H.chg (fun k h ↦ h) (fun k h hk ↦ h))).mono ?_); rintro e w' ⟨Al, cl, rfl, hown, hT1, hc⟩; obtain ⟨_, o1, hb1, hO1, _⟩ := Tab.obj hT1; have HTO1 := Lib.hid hO1; have H1 := Fr.turnO H (r := orH Al cl nk kl) (by repeat (first | exact At.head | apply At.tail)) hb1 hc hown; clear hown hT1 hc hb1 hO1; replace H := H1; clear H1)
    | (go_at_call 31; (with_reducible refine (KTk.out _ _ HTO1.out (H.of (by repeat (first | exact At.head | apply At.tail))) (H.of (by repeat (first | exact At.head | apply At.tail)))).mono ?_); rintro e w' ⟨v, rfl, hT1, hc⟩; obtain ⟨_, o2, hb1, hO1, _⟩ := Tab.obj hT1.out; have HTO2 := Lib.hid hO1; have H1 := H.turn (by repeat (first | exact At.head | apply At.tail)) hb1 (chg_row hc.out); clear hT1 hc hb1 hO1; replace H := H1; clear H1)
    | (go_at_call 32; have HP : Tr (fun k => ndM b t g k ∨ Of _ k) _ (pcN (tbH ta) Al kl A tab) := Foot.imp H.tr (fun _ h => pc_known (cl := cl) (nk := nk) h.1 h.2 (by simp) HSK.out); (with_reducible refine (KCore.out _ _ _ _ (H.of (by repeat (first | exact At.head | apply At.tail))) nd_self H.avs HP).mono ?_); rintro e w' ⟨A3, c3, rfl, hb, hq⟩; have H1 := Fr.callQ H hb hq; clear hb hq HP; replace H := H1; clear H1)
    | ((with_reducible refine gate_dst (N := 3) rfl ?_); refine nB H ?_; clear H; intro g3 w3 H)
    | ((with_reducible refine gate_dst (N := 4) rfl ?_); refine nA #[.int .i64 0, .int .i64 0, .int .i64 0, .int .i64 0, .int .i64 0, .int .i64 0, .bool false, .bool false, .int .i64 0, .int .i64 0, .int .i64 0, .int .i64 0, .int .i64 0, .slice none 0 0] 43 H ?_; clear H; intro g4 w4 H)
    | ((with_reducible refine gate_dst (N := 6) rfl ?_); refine nA #[.int .i64 0, .int .i64 0, .int .i64 0, .bool false, .int .i64 0, .int .i64 0, .bool false, .slice none 0 0, .int .i64 0, .int .i64 0, .int .i64 0] 30 H ?_; clear H; intro g6 w6 H)
    | ((with_reducible refine gS rfl ?_); refine xS H ?_; clear H; intro w_ H)
    | ((with_reducible refine gL rfl ?_); refine xL H ?_)
    | fail)
  go_cut [7] (fun v7 wc => ∃ (A4 : Option Addr) (c4 : Nat), v7 = .bool kb ∧ Fr (ndM b t g) (ndM b t g) w wc [(g6, .cells #[.int .i64 z.lo, .int .i64 z.hi, .int .i64 z.time, .bool z.set, .int .i64 z.held, .int .i64 z.hops, .bool z.good, .slice A4 z.tab.length c4, .int .i64 z.st, .int .i64 z.sn, .int .i64 z.life] 30 (0, 0)), (g4, .cells #[.int .i64 0, .int .i64 0, .int .i64 0, .int .i64 0, .int .i64 0, .int .i64 0, .bool false, .bool false, .int .i64 0, .int .i64 0, .int .i64 0, .int .i64 0, .int .i64 0, .slice none 0 0] 43 (0, 0)), (g3, .cells #[.int .i64 ticks, .slice Ah nh ch, .bool ref, .int .i64 reading, .bool given, .slice Ax xn xc] 38 (0, 0)), (b, o2), (t, tabC b), (g, .cells #[.int .i64 p.N, .int .i64 p.F, .int .i64 p.D, .int .i64 p.Be, .int .i64 p.Rho, .int .i64 p.De, .int .i64 p.Ji, .int .i64 p.Eps, .int .i64 p.Mu, .int .i64 p.Ho, .int .i64 p.Pu, .int .i64 p.Se, .int .i64 lo, .int .i64 hi, .int .i64 time, .bool set, .int .i64 held, .int .i64 hops, .bool good, .slice A n c, .int .i64 st, .int .i64 sn, .int .i64 life, .int .i64 me, .pointer (some ⟨t, 0, none⟩)] 53 (0, 0))] (fun W => (pcB ta Ah heard A tab W ∧ Kd.C k72 W A4 z.tab.length z.tab) ∧ owns w.heap.size [orH Al cl nk kl] W))
  case first =>
    cases cb with
    | false =>
      have hz1 : y2 = z := by have := HZ.out.1; simpa using this
      have hz2 : fb = kb := by have := HZ.out.2; simpa using this
      clear HZ
      subst hz1 hz2
      go_wp2_with (first
        | (go_at_call 33; have HP : Tr (fun k => ndM b t g k ∨ Of _ k) _ (pcN (tbH ta) Al kl A tab) := Foot.imp H.tr (fun _ h => pc_known (cl := cl) (nk := nk) h.1.1 h.2 (by simp) HSK.out); (with_reducible refine (KFol.out _ _ _ _ (H.of (by repeat (first | exact At.head | apply At.tail))) nd_self H.avs HP).mono ?_); rintro e w' ⟨A5, c5, rfl, hb, hq⟩; have H1 := Fr.callQ H hb hq; clear hb hq HP; replace H := H1; clear H1)
        | ((with_reducible refine gS rfl ?_); refine xS H ?_; clear H; intro w_ H)
        | ((with_reducible refine gL rfl ?_); refine xL H ?_)
        | fail)
      go_meet
      case rel => exact ⟨A5, c5, rfl, H.imp (fun W h => ⟨⟨h.1.1.1, h.1.2⟩, h.2⟩)⟩
    | true =>
      have hz1 : y1 = z := by have := HZ.out.1; simpa using this
      have hz2 : true = kb := by have := HZ.out.2; simpa using this
      clear HZ
      subst hz1 hz2
      go_wp2
      go_meet
      case rel => exact ⟨A3, c3, rfl, H⟩
  case rest =>
    obtain ⟨A4, c4, rfl, H1⟩ := hcut
    clear H
    have H := H1
    clear H1
    go_upto_if 47 with (first
      | fail)
    have HY2 : Hid (y = if kb = true then z else lostS p ⟨lo, hi, time, set, held, hops, good, tab, st, sn, life⟩ ticks) := Lib.hid (by
      rw [HYE.out, ← HZ.out.1, ← HZ.out.2]
      cases cb <;> cases fb <;> rfl)
    go_cut [7] (fun v7 wc => ∃ (A5 : Option Addr) (c5 : Nat), v7 = .bool kb ∧ Fr (ndM b t g) (ndM b t g) w wc [(g6, .cells #[.int .i64 y.lo, .int .i64 y.hi, .int .i64 y.time, .bool y.set, .int .i64 y.held, .int .i64 y.hops, .bool y.good, .slice A5 y.tab.length c5, .int .i64 y.st, .int .i64 y.sn, .int .i64 y.life] 30 (0, 0)), (g4, .cells #[.int .i64 0, .int .i64 0, .int .i64 0, .int .i64 0, .int .i64 0, .int .i64 0, .bool false, .bool false, .int .i64 0, .int .i64 0, .int .i64 0, .int .i64 0, .int .i64 0, .slice none 0 0] 43 (0, 0)), (g3, .cells #[.int .i64 ticks, .slice Ah nh ch, .bool ref, .int .i64 reading, .bool given, .slice Ax xn xc] 38 (0, 0)), (b, o2), (t, tabC b), (g, .cells #[.int .i64 p.N, .int .i64 p.F, .int .i64 p.D, .int .i64 p.Be, .int .i64 p.Rho, .int .i64 p.De, .int .i64 p.Ji, .int .i64 p.Eps, .int .i64 p.Mu, .int .i64 p.Ho, .int .i64 p.Pu, .int .i64 p.Se, .int .i64 lo, .int .i64 hi, .int .i64 time, .bool set, .int .i64 held, .int .i64 hops, .bool good, .slice A n c, .int .i64 st, .int .i64 sn, .int .i64 life, .int .i64 me, .pointer (some ⟨t, 0, none⟩)] 53 (0, 0))] (fun W => (pcB ta Ah heard A tab W ∧ Kd.C k72 W A5 y.tab.length y.tab) ∧ owns w.heap.size [orH Al cl nk kl] W))
    case first =>
      cases kb with
      | true =>
        have hy := HY2.out
        rw [if_pos rfl] at hy
        clear HZ HY2
        go_wp2
        go_meet
        case rel => exact ⟨A4, c4, rfl, by rw [hy]; exact H⟩
      | false =>
        have hy := HY2.out
        rw [if_neg (by decide)] at hy
        have HYL := Lib.hid hy
        clear HZ HY2 hy
        go_upto_region 10 with (first
          | ((with_reducible refine gS rfl ?_); refine xS H ?_; clear H; intro w_ H)
          | ((with_reducible refine gL rfl ?_); refine xL H ?_)
          | fail)
        refine ko_region1 H (by simp only [List.length_cons, List.length_nil, Nat.reduceAdd]; rfl) (g := g6) (by repeat (first | exact Take.head | apply Take.tail)) (by kernel_rfl) (by as_aux_lemma => kernel_rfl) (fun HR => ?_)
        repeat ((first
          | ((with_reducible refine kg_call (f := 34) rfl ?_); refine yC 34 Tryz.func34 (fun W hC hd => Hold_calls p _ _ _ W) ?_)
          | ((with_reducible refine kg_call (f := 35) rfl ?_); refine yC 35 Tryz.func35 (fun W hC hd => More_calls _ W) ?_)
          | ((with_reducible refine kg_call (f := 36) rfl ?_); refine yC 36 Tryz.func36 (fun W hC hd => KLost.out W) ?_)
          | ((with_reducible refine kg_load rfl ?_); refine yL HR ?_)
          | ((with_reducible refine kg_store rfl ?_); refine yS ?_; (try simp only [Value.cells, List.length_cons, List.length_nil, Nat.reduceAdd]))
          | (refine yP ?_)
          | (refine yO ?_)); (try simp only [Act.put, lsA, lsZ, lsS, Nat.reduceAdd]))
        refine ko_end ?_
        intro w1 H1
        clear HR H
        have H := H1
        clear H1
        (try simp only [List.map_cons, List.map_nil, cv, List.cons_append, List.nil_append] at H)
        go_wp2
        go_meet
        case rel =>
          refine ⟨A, c, rfl, ?_⟩
          rw [HYL.out]
          unfold lostS
          dsimp only
          rw [HN.out]
          exact H.imp (fun W h => ⟨⟨h.1.1, by have := h.1.1.2.2.2; rw [HN.out] at this; exact this⟩, h.2⟩)
    case rest =>
      obtain ⟨A5, c5, rfl, H1⟩ := hcut
      clear H
      have H := H1
      clear H1
      obtain ⟨z0, hz0⟩ : ∃ z, stepS p ⟨lo, hi, time, set, held, hops, good, tab, st, sn, life⟩ ticks y = z := ⟨_, rfl⟩
      have hzl : z0.tab.length ≤ 4096 := by
        rw [← hz0]
        exact Nat.le_trans (sane_len p.D y) HLEN.out.2.2
      have KStep : Hid (∀ W, W.heap[g]? = some (.cells #[.int .i64 p.N, .int .i64 p.F, .int .i64 p.D, .int .i64 p.Be, .int .i64 p.Rho, .int .i64 p.De, .int .i64 p.Ji, .int .i64 p.Eps, .int .i64 p.Mu, .int .i64 p.Ho, .int .i64 p.Pu, .int .i64 p.Se, .int .i64 lo, .int .i64 hi, .int .i64 time, .bool set, .int .i64 held, .int .i64 hops, .bool good, .slice A n c, .int .i64 st, .int .i64 sn, .int .i64 life, .int .i64 me, .pointer (some ⟨t, 0, none⟩)] 53 (0, 0)) → Tr (fun k => k = g) W (fun W => Kd.C k72 W A5 y.tab.length y.tab) → Calls Tryz.prog 37 #[.pointer (some ⟨g, 0, none⟩), .int .i64 ticks, .agg #[.int .i64 y.lo, .int .i64 y.hi, .int .i64 y.time, .bool y.set, .int .i64 y.held, .int .i64 y.hops, .bool y.good, .slice A5 y.tab.length c5, .int .i64 y.st, .int .i64 y.sn, .int .i64 y.life]] W fun e w' => ∃ A6 c6, e = .returned (.tuple #[]) ∧ w'.heap[g]? = some (.cells #[.int .i64 p.N, .int .i64 p.F, .int .i64 p.D, .int .i64 p.Be, .int .i64 p.Rho, .int .i64 p.De, .int .i64 p.Ji, .int .i64 p.Eps, .int .i64 p.Mu, .int .i64 p.Ho, .int .i64 p.Pu, .int .i64 p.Se, .int .i64 z0.lo, .int .i64 z0.hi, .int .i64 z0.time, .bool z0.set, .int .i64 z0.held, .int .i64 z0.hops, .bool z0.good, .slice A6 z0.tab.length c6, .int .i64 z0.st, .int .i64 z0.sn, .int .i64 z0.life, .int .i64 me, .pointer (some ⟨t, 0, none⟩)] 53 (0, 0)) ∧ w'.ownsRow W.heap.size 72 2 (.slice A6 z0.tab.length c6) z0.tab.length (flL z0.tab) ∧ Chg (fun k => k = g) W w') := Lib.hid (fun W h1 h2 => by
        have := Step_calls (tG := 53) p ⟨lo, hi, time, set, held, hops, good, tab, st, sn, life⟩ A c g [.int .i64 me, .pointer (some ⟨t, 0, none⟩)] ticks y A5 c5 W (by dsimp only; rw [HN.out]; exact h1) h2 HLEN.out.2.2
        rw [hz0] at this
        exact this)
      have HZ0 := Lib.hid hz0
      clear hz0
      obtain ⟨zlo, zhi, ztime, zset, zheld, zhops, zgood, ztab, zst, zsn, zlife⟩ := z0
      dsimp only at KStep hzl
      obtain ⟨m0, hm0⟩ : ∃ n, ztab.length = n := ⟨_, rfl⟩
      rw [hm0] at KStep hzl
      have HM0 := Lib.hid hm0
      clear hm0
      go_upto_region 11 with fail
      refine ro_start (Frs _ _ _ _ _) [6] [0, 1, 2, 3, 4, 5, 6] 7 (by kernel_rfl) (by rfl) (by simp only [pickR, List.getElem?_cons_succ, List.getElem?_cons_zero]; rfl) (by rfl) (H.drewN 1) (fun HS => ?_)
      have H1 : Fr _ _ _ _ _ _ := HS
      clear HS H
      have H := H1
      clear H1
      repeat ((first
        | ((with_reducible refine rz_call (f := 37) rfl ?_); refine ro_callL 37 _ rfl (by kernel_rfl) (by kernel_rfl) (by rfl) Tryz.func37 (by kernel_rfl) rfl (by simp only [List.map_toArray, List.map_cons, List.map_nil]; rfl) ?_; (refine (KStep.out _ (H.of (by repeat (first | exact At.head | apply At.tail))) (step_tr H.out)).mono ?_); rintro e w' ⟨A6, c6, rfl, hb, hown, hc⟩; have H1 := Fr.turnO H (r := ⟨72, 2, A6, m0, c6, flL ztab⟩) (by repeat (first | exact At.head | apply At.tail)) hb hc hown; refine ⟨_, rfl, ?_⟩; clear hb hown hc; replace H := H1; clear H1; (try simp only [Act.put, lsA, lsZ, lsS, Nat.reduceAdd]))
        | ((with_reducible refine rz_load rfl ?_); refine zL H ?_)
        | (refine zO ?_)
        | (refine zP ?_)); (try simp only [Act.put, lsA, lsZ, lsS, Nat.reduceAdd]))
      refine ro_done (by kernel_rfl) ?_
      go_wp2
      go_loopw [93] (fun v93 wr => ∃ (k : Nat) (st' sn' : Int), k ≤ nk ∧ v93 = .int .i64 k ∧ Hid (lisN p (kl.take k) ⟨zlo, zhi, ztime, zset, zheld, zhops, zgood, ztab, zst, zsn, zlife⟩ = ⟨zlo, zhi, ztime, zset, zheld, zhops, zgood, ztab, st', sn', zlife⟩) ∧ Fr (ndM b t g) (ndM b t g) w wr [(g6, .cells #[.int .i64 y.lo, .int .i64 y.hi, .int .i64 y.time, .bool y.set, .int .i64 y.held, .int .i64 y.hops, .bool y.good, .slice A5 y.tab.length c5, .int .i64 y.st, .int .i64 y.sn, .int .i64 y.life] 30 (0, 0)), (g4, .cells #[.int .i64 0, .int .i64 0, .int .i64 0, .int .i64 0, .int .i64 0, .int .i64 0, .bool false, .bool false, .int .i64 0, .int .i64 0, .int .i64 0, .int .i64 0, .int .i64 0, .slice none 0 0] 43 (0, 0)), (g3, .cells #[.int .i64 ticks, .slice Ah nh ch, .bool ref, .int .i64 reading, .bool given, .slice Ax xn xc] 38 (0, 0)), (b, o2), (t, tabC b), (g, .cells #[.int .i64 p.N, .int .i64 p.F, .int .i64 p.D, .int .i64 p.Be, .int .i64 p.Rho, .int .i64 p.De, .int .i64 p.Ji, .int .i64 p.Eps, .int .i64 p.Mu, .int .i64 p.Ho, .int .i64 p.Pu, .int .i64 p.Se, .int .i64 zlo, .int .i64 zhi, .int .i64 ztime, .bool zset, .int .i64 zheld, .int .i64 zhops, .bool zgood, .slice A6 m0 c6, .int .i64 st', .int .i64 sn', .int .i64 zlife, .int .i64 me, .pointer (some ⟨t, 0, none⟩)] 53 (0, 0))] (fun W => (pcB ta Ah heard A tab W ∧ Kd.C k72 W A5 y.tab.length y.tab) ∧ owns w.heap.size [⟨72, 2, A6, m0, c6, flL ztab⟩, orH Al cl nk kl] W)) (fun v93 _ => nk - (intOf v93).toNat)
      case atStart => exact ⟨0, zst, zsn, by omega, rfl, Lib.hid rfl, H⟩
      case round =>
        clear H
        obtain ⟨k, st', sn', hk, rfl, HF, H⟩ := hrel
        by_cases hlt : k < nk
        · have hkl : k < kl.length := by rw [hnk]; exact hlt
          have hk1 : (k : Int) < (nk : Int) := by omega
          have hs1 : -9223372036854775808 ≤ (k : Int) + 1 := by omega
          have hs2 : (k : Int) + 1 ≤ 9223372036854775807 := by omega
          obtain ⟨ad, e, hx⟩ := rowH_own (own_val (owns_at H.now.2 (r := orH Al cl nk kl) (by simp))) k hkl
          cases e
          obtain ⟨x, hxe⟩ : ∃ x, kl[k] = x := ⟨_, rfl⟩
          rw [hxe] at hx
          have HTK := Lib.hid (show lisN p (kl.take (k + 1)) ⟨zlo, zhi, ztime, zset, zheld, zhops, zgood, ztab, zst, zsn, zlife⟩ = _ from by rw [List.take_succ_eq_append_getElem hkl, hxe, lisN_snoc, HF.out])
          obtain ⟨⟨x1, x2⟩, hxx⟩ : ∃ y, ((listenS p ⟨zlo, zhi, ztime, zset, zheld, zhops, zgood, ztab, st', sn', zlife⟩ x.st x.sn).st, (listenS p ⟨zlo, zhi, ztime, zset, zheld, zhops, zgood, ztab, st', sn', zlife⟩ x.st x.sn).sn) = y := ⟨_, rfl⟩
          have KLis : Hid (∀ W, W.heap[g]? = some (.cells #[.int .i64 p.N, .int .i64 p.F, .int .i64 p.D, .int .i64 p.Be, .int .i64 p.Rho, .int .i64 p.De, .int .i64 p.Ji, .int .i64 p.Eps, .int .i64 p.Mu, .int .i64 p.Ho, .int .i64 p.Pu, .int .i64 p.Se, .int .i64 zlo, .int .i64 zhi, .int .i64 ztime, .bool zset, .int .i64 zheld, .int .i64 zhops, .bool zgood, .slice A6 m0 c6, .int .i64 st', .int .i64 sn', .int .i64 zlife, .int .i64 me, .pointer (some ⟨t, 0, none⟩)] 53 (0, 0)) → Calls Tryz.prog 38 #[.pointer (some ⟨g, 0, none⟩), .agg #[.int .i64 x.st, .int .i64 x.sn]] W fun e w' => e = .returned (.tuple #[]) ∧ w'.heap[g]? = some (.cells #[.int .i64 p.N, .int .i64 p.F, .int .i64 p.D, .int .i64 p.Be, .int .i64 p.Rho, .int .i64 p.De, .int .i64 p.Ji, .int .i64 p.Eps, .int .i64 p.Mu, .int .i64 p.Ho, .int .i64 p.Pu, .int .i64 p.Se, .int .i64 zlo, .int .i64 zhi, .int .i64 ztime, .bool zset, .int .i64 zheld, .int .i64 zhops, .bool zgood, .slice A6 m0 c6, .int .i64 x1, .int .i64 x2, .int .i64 zlife, .int .i64 me, .pointer (some ⟨t, 0, none⟩)] 53 (0, 0)) ∧ Chg (fun k => k = g) W w') := Lib.hid (fun W h => by
            have := Listen_calls (tG := 53) p ⟨zlo, zhi, ztime, zset, zheld, zhops, zgood, ztab, st', sn', zlife⟩ A6 c6 g [.int .i64 me, .pointer (some ⟨t, 0, none⟩)] x.st x.sn W (by dsimp only; rw [HM0.out]; exact h)
            dsimp only at this
            rw [HM0.out, (Prod.mk.inj hxx).1, (Prod.mk.inj hxx).2] at this
            exact this)
          have HXX : Hid (listenS p ⟨zlo, zhi, ztime, zset, zheld, zhops, zgood, ztab, st', sn', zlife⟩ x.st x.sn = ⟨zlo, zhi, ztime, zset, zheld, zhops, zgood, ztab, x1, x2, zlife⟩) := Lib.hid (by
            rw [← (Prod.mk.inj hxx).1, ← (Prod.mk.inj hxx).2]
            rfl)
          clear hxe hxx
          obtain ⟨kind, frm, xlo, xhi, xheld, xhops, xgood, xref, slo, shi, pulse, xst, xsn, Aw, wn, wc_, age⟩ := x
          have HC := Lib.hid hx
          clear hx
          simp only [encH] at HC
          dsimp only at KLis HTK HXX
          cases hkd : (kind == 2) with
          | false =>
            have HT2 := Lib.hid (HTK.out.trans (if_neg (by rw [hkd]; simp)))
            clear HTK
            go_wp2_with (first
              | ((with_reducible refine gate_dst (N := 96) rfl ?_); refine load_cells rfl rfl (ad := ad.add (k * 15)) (cs := [.int .i64 kind, .int .i64 frm, .int .i64 xlo, .int .i64 xhi, .int .i64 xheld, .int .i64 xhops, .bool xgood, .bool xref, .int .i64 slo, .int .i64 shi, .int .i64 pulse, .int .i64 xst, .int .i64 xsn, .slice Aw wn wc_, .int .i64 age]) ?hx Tryz.underlying45 rfl (by kernel_rfl) HC.out ?_; (case hx => first | rfl | (go_simp; done) | (go_simp; rfl)))
              | ((with_reducible refine gate_dst (N := 9) rfl ?_); refine nA #[.int .i64 0, .int .i64 0, .int .i64 0, .int .i64 0, .int .i64 0, .int .i64 0, .bool false, .bool false, .int .i64 0, .int .i64 0, .int .i64 0, .int .i64 0, .int .i64 0, .slice none 0 0, .int .i64 0] 45 H ?_; clear H; intro g9 w9 H)
              | ((with_reducible refine gS rfl ?_); refine xS H ?_; clear H; intro w_ H)
              | ((with_reducible refine gL rfl ?_); (try (refine gate_guard (by rfl) ?_; dsimp only)); refine xL H ?_)
              | fail)
            go_roundw
            case rel => exact ⟨k + 1, st', sn', by omega, by simp, HT2, H.drop⟩
            case measure => simp [intOf]; omega
          | true =>
            cases xgood with
            | false =>
              have HT2 := Lib.hid (HTK.out.trans (if_neg (by rw [hkd]; decide)))
              clear HTK
              go_wp2_with (first
                | ((with_reducible refine gate_dst (N := 96) rfl ?_); refine load_cells rfl rfl (ad := ad.add (k * 15)) (cs := [.int .i64 kind, .int .i64 frm, .int .i64 xlo, .int .i64 xhi, .int .i64 xheld, .int .i64 xhops, .bool false, .bool xref, .int .i64 slo, .int .i64 shi, .int .i64 pulse, .int .i64 xst, .int .i64 xsn, .slice Aw wn wc_, .int .i64 age]) ?hx Tryz.underlying45 rfl (by kernel_rfl) HC.out ?_; (case hx => first | rfl | (go_simp; done) | (go_simp; rfl)))
                | ((with_reducible refine gate_dst (N := 9) rfl ?_); refine nA #[.int .i64 0, .int .i64 0, .int .i64 0, .int .i64 0, .int .i64 0, .int .i64 0, .bool false, .bool false, .int .i64 0, .int .i64 0, .int .i64 0, .int .i64 0, .int .i64 0, .slice none 0 0, .int .i64 0] 45 H ?_; clear H; intro g9 w9 H)
                | ((with_reducible refine gS rfl ?_); refine xS H ?_; clear H; intro w_ H)
                | ((with_reducible refine gL rfl ?_); (try (refine gate_guard (by rfl) ?_; dsimp only)); refine xL H ?_)
                | fail)
              go_roundw
              case rel => exact ⟨k + 1, st', sn', by omega, by simp, HT2, H.drop⟩
              case measure => simp [intOf]; omega
            | true =>
              have HT2 := Lib.hid ((HTK.out.trans (if_pos (by rw [hkd]; rfl))).trans HXX.out)
              clear HTK
              go_upto_region 16 with (first
                | ((with_reducible refine gate_dst (N := 96) rfl ?_); refine load_cells rfl rfl (ad := ad.add (k * 15)) (cs := [.int .i64 kind, .int .i64 frm, .int .i64 xlo, .int .i64 xhi, .int .i64 xheld, .int .i64 xhops, .bool true, .bool xref, .int .i64 slo, .int .i64 shi, .int .i64 pulse, .int .i64 xst, .int .i64 xsn, .slice Aw wn wc_, .int .i64 age]) ?hx Tryz.underlying45 rfl (by kernel_rfl) HC.out ?_; (case hx => first | rfl | (go_simp; done) | (go_simp; rfl)))
                | ((with_reducible refine gate_dst (N := 9) rfl ?_); refine nA #[.int .i64 0, .int .i64 0, .int .i64 0, .int .i64 0, .int .i64 0, .int .i64 0, .bool false, .bool false, .int .i64 0, .int .i64 0, .int .i64 0, .int .i64 0, .int .i64 0, .slice none 0 0, .int .i64 0] 45 H ?_; clear H; intro g9 w9 H)
                | ((with_reducible refine gS rfl ?_); refine xS H ?_; clear H; intro w_ H)
                | ((with_reducible refine gL rfl ?_); (try (refine gate_guard (by rfl) ?_; dsimp only)); refine xL H ?_)
                | fail)
              refine ro_start (Frs _ _ _ _ _) [6] [0, 1, 2, 3, 4, 5, 6] 7 (by kernel_rfl) (by rfl) (by simp only [pickR, List.getElem?_cons_succ, List.getElem?_cons_zero]; rfl) (by rfl) (H.drewN 1) (fun HS => ?_)
              have H1 : Fr _ _ _ _ _ _ := HS
              clear HS H
              have H := H1
              clear H1
              repeat ((first
                | ((with_reducible refine rz_call (f := 38) rfl ?_); refine ro_callL 38 _ rfl (by kernel_rfl) (by kernel_rfl) (by rfl) Tryz.func38 (by kernel_rfl) rfl (by simp only [List.map_toArray, List.map_cons, List.map_nil]; rfl) ?_; (refine (KLis.out _ (H.of (by repeat (first | exact At.head | apply At.tail)))).mono ?_); rintro e w' ⟨rfl, hb, hc⟩; have H1 := H.turn (by repeat (first | exact At.head | apply At.tail)) hb hc; refine ⟨_, rfl, ?_⟩; clear hb hc; replace H := H1; clear H1; (try simp only [Act.put, lsA, lsZ, lsS, Nat.reduceAdd]))
                | ((with_reducible refine rz_load rfl ?_); refine zL H ?_)
                | (refine zO ?_)
                | (refine zP ?_)); (try simp only [Act.put, lsA, lsZ, lsS, Nat.reduceAdd]))
              refine ro_done (by kernel_rfl) ?_
              go_wp2
              go_roundw
              case rel => exact ⟨k + 1, x1, x2, by omega, by simp, HT2, H.drop⟩
              case measure => simp [intOf]; omega
        · obtain rfl : k = nk := by omega
          have HLF : Hid (lisN p kl ⟨zlo, zhi, ztime, zset, zheld, zhops, zgood, ztab, zst, zsn, zlife⟩ = ⟨zlo, zhi, ztime, zset, zheld, zhops, zgood, ztab, st', sn', zlife⟩) := Lib.hid (by rw [← HF.out, List.take_of_length_le (by rw [hnk]; exact Nat.le_refl _)])
          obtain ⟨pz, hpz⟩ : ∃ x, pulseS p ⟨zlo, zhi, ztime, zset, zheld, zhops, zgood, ztab, st', sn', zlife⟩ = x := ⟨_, rfl⟩
          obtain ⟨⟨t1, t2⟩, htt⟩ : ∃ x, tickP st' sn' ztime = x := ⟨_, rfl⟩
          have KSay : Hid (∀ W, W.heap[g]? = some (.cells #[.int .i64 p.N, .int .i64 p.F, .int .i64 p.D, .int .i64 p.Be, .int .i64 p.Rho, .int .i64 p.De, .int .i64 p.Ji, .int .i64 p.Eps, .int .i64 p.Mu, .int .i64 p.Ho, .int .i64 p.Pu, .int .i64 p.Se, .int .i64 zlo, .int .i64 zhi, .int .i64 ztime, .bool zset, .int .i64 zheld, .int .i64 zhops, .bool zgood, .slice A6 m0 c6, .int .i64 st', .int .i64 sn', .int .i64 zlife, .int .i64 me, .pointer (some ⟨t, 0, none⟩)] 53 (0, 0)) → Tr (fun k => k = g) W (fun W => Kd.C k72 W A6 m0 ztab) → Calls Tryz.prog 39 #[.pointer (some ⟨g, 0, none⟩), .int .i64 2, .int .i64 me, .bool false, .agg #[.int .i64 0, .int .i64 0]] W fun e w' => ∃ A7 c7, e = .returned (.agg #[.int .i64 2, .int .i64 me, .int .i64 zlo, .int .i64 zhi, .int .i64 zheld, .int .i64 zhops, .bool zgood, .bool false, .int .i64 0, .int .i64 0, .int .i64 pz, .int .i64 t1, .int .i64 t2, .slice A7 m0 c7]) ∧ w'.heap[g]? = some (.cells #[.int .i64 p.N, .int .i64 p.F, .int .i64 p.D, .int .i64 p.Be, .int .i64 p.Rho, .int .i64 p.De, .int .i64 p.Ji, .int .i64 p.Eps, .int .i64 p.Mu, .int .i64 p.Ho, .int .i64 p.Pu, .int .i64 p.Se, .int .i64 zlo, .int .i64 zhi, .int .i64 ztime, .bool zset, .int .i64 zheld, .int .i64 zhops, .bool zgood, .slice A6 m0 c6, .int .i64 t1, .int .i64 t2, .int .i64 zlife, .int .i64 me, .pointer (some ⟨t, 0, none⟩)] 53 (0, 0)) ∧ w'.ownsRow W.heap.size 72 2 (.slice A7 m0 c7) m0 (flL ztab) ∧ Chg (fun k => k = g) W w') := Lib.hid (fun W h1 h2 => by
            have := Say_calls (tG := 53) p ⟨zlo, zhi, ztime, zset, zheld, zhops, zgood, ztab, st', sn', zlife⟩ A6 c6 g [.int .i64 me, .pointer (some ⟨t, 0, none⟩)] 2 me false 0 0 W (by dsimp only; rw [HM0.out]; exact h1) (by dsimp only; rw [HM0.out]; exact h2) (by dsimp only; rw [HM0.out]; exact hzl)
            dsimp only at this
            rw [HM0.out, hpz, htt] at this
            exact this)
          have HPT := Lib.hid (And.intro hpz htt)
          clear hpz htt
          go_upto_region 18 with fail
          refine ro_start (Frs _ _ _ _ _) [8, 9] [0, 1, 2, 3, 4, 5, 6, 7, 8, 9] 10 (by kernel_rfl) (by rfl) (by simp only [pickR, List.getElem?_cons_succ, List.getElem?_cons_zero]; rfl) (by rfl) (H.drewN 1) (fun HS => ?_)
          have H1 : Fr _ _ _ _ _ _ := HS
          clear HS H
          have H := H1
          clear H1
          repeat ((first
            | ((with_reducible refine rz_call (f := 39) rfl ?_); refine ro_callL 39 _ rfl (by kernel_rfl) (by kernel_rfl) (by rfl) Tryz.func39 (by kernel_rfl) rfl (by simp only [List.map_toArray, List.map_cons, List.map_nil]; rfl) ?_; (refine (KSay.out _ (H.of (by repeat (first | exact At.head | apply At.tail))) (say_tr (c := c6) H.out (by simp) HM0.out)).mono ?_); rintro e w' ⟨A7, c7, rfl, hb, hown, hc⟩; have H1 := Fr.turnO H (r := ⟨72, 2, A7, m0, c7, flL ztab⟩) (by repeat (first | exact At.head | apply At.tail)) hb hc hown; refine ⟨_, rfl, ?_⟩; clear hb hown hc; replace H := H1; clear H1; (try simp only [Act.put, lsA, lsZ, lsS, Nat.reduceAdd]))
            | ((with_reducible refine rz_load rfl ?_); refine zL H ?_)
            | ((with_reducible refine rz_store rfl ?_); refine zS H ?_; clear H; intro w1 H)
            | (refine zO ?_)
            | (refine zP ?_)); (try simp only [Act.put, lsA, lsZ, lsS, Nat.reduceAdd]))
          refine ro_done (by kernel_rfl) ?_
          go_wp2
          refine bodyPost_ret (results_c rfl _ _ g4 43 _ (0, 0) _ rfl (H.of (by repeat (first | exact At.head | apply At.tail))) Tryz.underlying43 rfl (by kernel_rfl)) rfl ?_
          refine ⟨⟨zlo, zhi, ztime, zset, zheld, zhops, zgood, ztab, st', sn', zlife⟩, kl, A6, c6, A7, c7, by rw [HKN.out], by rw [HYB.out, HZ0.out, HLF.out], ?_⟩
          dsimp only
          rw [HPT.out.1, HPT.out.2, HM0.out, HKN.out]
          exact ⟨rfl, H.of (by repeat (first | exact At.head | apply At.tail)), HTO2.out.tab (H.of (by repeat (first | exact At.head | apply At.tail))) (H.of (by repeat (first | exact At.head | apply At.tail))), own_val (owns_at H.now.2 (r := ⟨72, 2, A6, m0, c6, flL ztab⟩) (by simp)), own_val (owns_at H.now.2 (r := ⟨72, 2, A7, m0, c7, flL ztab⟩) (by simp)), hzl, H.chg⟩
end Go.Proofs.YtdaohldmojpihaaGreatDoor.G

namespace Go.Proofs.YtdaohldmojpihaaGreatDoor.G
open Go.RowKit Go.Proofs.YtdaohldmojpihaaGreatDoorW.PrintWords Go.Proofs.YtdaohldmojpihaaGreatDoorW.PrintLast Go.Proofs.YtdaohldmojpihaaGreatDoorW.PrintMore Go.Proofs.YtdaohldmojpihaaGreatDoorPl Go.Proofs.YtdaohldmojpihaaGreatDoorEm Go.Proofs.YtdaohldmojpihaaGreatDoorKr Go.Proofs.YtdaohldmojpihaaGreatDoorRz Go.Proofs.YtdaohldmojpihaaGreatDoor.X
open Go.Proofs.YtdaohldmojpihaaGreatDoor.Mb (Tab FT atF hearF tickF nums GoodF Ab nearE)
set_option linter.unusedVariables false
set_option linter.unusedSimpArgs false
theorem Fr.node {M A : Nat → Prop} {w W W1 : World} {bl : List (Nat × Obj)} {p : World → Prop} {rs : List OR} {r : OR} {g t b : Nat} {f : FT} {cs : Array Value} (H : Fr M A w W bl (fun W => p W ∧ owns w.heap.size rs W)) (hB : Below W.heap.size W W1) (hl : W.heap.size ≤ g ∧ W.heap.size ≤ t ∧ W.heap.size ≤ b) (hg : W1.heap[g]? = some (.cells cs 53 (0, 0))) (hT : Tab W1 t b f) (ho : r.own W.heap.size W1) (he : r.e = 72) :
    ∃ o, TabO b f o ∧ Fr M A w W1 ((b, o) :: (t, tabC b) :: (g, .cells cs 53 (0, 0)) :: bl) (fun W => p W ∧ owns w.heap.size (r :: rs) W) := by
  obtain ⟨o, hO, H2⟩ := nd_start hT hg (p := fun _ => True) (fun _ _ => trivial)
  obtain ⟨q1, o', q2, hO', hne⟩ := Tab.obj hT
  refine ⟨o, hO, ⟨H.av, H.chg.trans (Chg.of_below hB), ?_, ?_, ?_⟩⟩
  · intro x hx
    simp only [List.mem_cons] at hx
    rcases hx with rfl | rfl | rfl | hx
    · exact ⟨(H2.blk _ List.mem_cons_self).1, .inl (Nat.le_trans H.chg.size hl.2.2)⟩
    · exact ⟨q1, .inl (Nat.le_trans H.chg.size hl.2.1)⟩
    · exact ⟨hg, .inl (Nat.le_trans H.chg.size hl.1)⟩
    · exact ⟨(hB.block _ (Go.Proofs.YtdaohldmojpihaaGreatDoorEm.obj_lt (H.blk x hx).1)).trans (H.blk x hx).1, (H.blk x hx).2⟩
  · have hold : ∀ x ∈ bl, x.1 < W.heap.size := fun x hx => Go.Proofs.YtdaohldmojpihaaGreatDoorEm.obj_lt (H.blk x hx).1
    have nd := H2.nd
    simp only [List.pairwise_cons, List.mem_cons, List.not_mem_nil, or_false] at nd
    refine List.Pairwise.cons (fun x hx => ?_) (List.Pairwise.cons (fun x hx => ?_) (List.Pairwise.cons (fun x hx => ?_) H.nd))
    · simp only [List.mem_cons] at hx
      rcases hx with rfl | rfl | hx
      · exact nd.1 _ (.inl rfl)
      · exact nd.1 _ (.inr rfl)
      · have := hold x hx; show b ≠ x.1; omega
    · simp only [List.mem_cons] at hx
      rcases hx with rfl | hx
      · exact nd.2.1 _ rfl
      · have := hold x hx; show t ≠ x.1; omega
    · have := hold x hx; show g ≠ x.1; omega
  · have hrow : Tr (ndM b t g) W1 (fun W => r.own W.heap.size W → True) := fun _ _ _ => trivial
    have hr1 : Tr (fun k => A k ∨ Of ((b, o) :: (t, tabC b) :: (g, .cells cs 53 (0, 0)) :: bl) k) W1 (fun W => r.own w.heap.size W) := Tr_ownR ho H.chg.size (fun k hk hD => by
      have h1 := own_lt ho hk
      have h3 : ndM b t g k → False := fun hk3 => by
        obtain ⟨_, ⟨h2, _⟩ | ⟨g', cap, cur, h2, _, h4, _⟩⟩ := ho
        · rw [h2] at hk; cases hk
        · rw [h2] at hk
          have e1 : g' = k := by injection hk
          subst e1
          rw [he] at h4
          rcases hk3 with rfl | rfl | rfl
          · obtain ⟨D, ⟨es, ck, hb, _⟩, _⟩ := hT.map
            rw [hb] at h4; cases h4
          · rw [q1] at h4
            injection h4 with h4
            injection h4 with _ h4
            revert h4
            decide
          · rw [hg] at h4
            injection h4 with h4
            injection h4 with _ h4
            revert h4
            decide
      rcases hD with hD | ⟨x, hx, e⟩
      · have := H.av k hD; have := H.chg.size; omega
      · simp only [List.mem_cons] at hx
        rcases hx with rfl | rfl | rfl | hx
        · exact h3 (.inl e.symm)
        · exact h3 (.inr (.inl e.symm))
        · exact h3 (.inr (.inr e.symm))
        · have := Go.Proofs.YtdaohldmojpihaaGreatDoorEm.obj_lt (H.blk x hx).1; rw [e] at this; omega)
    have hr0 : Tr (fun k => A k ∨ Of ((b, o) :: (t, tabC b) :: (g, .cells cs 53 (0, 0)) :: bl) k) W1 (fun W => p W ∧ owns w.heap.size rs W) := fun W' hW => H.tr W' (fun j hj hl2 => (hW j (fun q => ?_) (by have := hB.size; omega)).trans (hB.block j hl2))
    · intro W' hW
      exact ⟨(hr0 W' hW).1, owns_cons.2 ⟨hr1 W' hW, (hr0 W' hW).2⟩⟩
    · rcases q with q | ⟨x, hx, e⟩
      · exact hj (.inl q)
      · simp only [List.mem_cons] at hx
        rcases hx with rfl | rfl | rfl | hx
        · have e' : b = j := e; omega
        · have e' : t = j := e; omega
        · have e' : g = j := e; omega
        · exact hj (.inr ⟨x, hx, e⟩)
theorem nd_eq {l : List (Nat × Obj)} (h : l.Pairwise (fun x y => x.1 ≠ y.1)) {x y : Nat × Obj} (hx : x ∈ l) (hy : y ∈ l) (e : x.1 = y.1) : x = y := by
  induction l with
  | nil => cases hx
  | cons a l ih =>
    obtain ⟨h1, h2⟩ := List.pairwise_cons.1 h
    rcases List.mem_cons.1 hx with q | q <;> rcases List.mem_cons.1 hy with r | r
    · rw [q, r]
    · rw [q] at e; exact absurd e (h1 _ r)
    · rw [r] at e; exact absurd e.symm (h1 _ q)
    · exact ih h2 q r
theorem Fr.beatN {M A : Nat → Prop} {w W W1 : World} {bl bl1 bl2 bl3 : List (Nat × Obj)} {p : World → Prop} {rs : List OR} {r1 r2 : OR} {g t b : Nat} {og og' ob ob' ot : Obj} (H : Fr M A w W bl (fun W => p W ∧ owns w.heap.size rs W)) (h1 : At bl g og og' bl1) (h2 : At bl1 b ob ob' bl2) (h3 : At bl2 t ot ot bl3) (hg : W1.heap[g]? = some og') (hb : W1.heap[b]? = some ob') (ht : W1.heap[t]? = some ot) (hc : Chg (ndM b t g) W W1) (ho1 : r1.own W.heap.size W1) (ho2 : r2.own W.heap.size W1) :
    Fr M A w W1 bl2 (fun W => p W ∧ owns w.heap.size (r1 :: r2 :: rs) W) := by
  have nd1 := pairwise_map h1.map H.nd
  have nd2 := pairwise_map h2.map nd1
  have hof : ∀ k, ndM b t g k → Of bl k := fun k hk => by
    rcases hk with rfl | rfl | rfl
    · exact (h1.of k).1 ⟨_, h2.mem, rfl⟩
    · exact (h1.of k).1 ((h2.of k).1 ⟨_, h3.mem, rfl⟩)
    · exact ⟨_, h1.mem, rfl⟩
  have hMk : ∀ k, Of bl k → k < w.heap.size → M k := fun k ⟨x, hx, e⟩ hk => by
    rcases (H.blk x hx).2 with q | q
    · omega
    · exact e ▸ q
  have hF : Fr M A w W1 bl2 (fun W => p W ∧ owns w.heap.size rs W) := by
    refine ⟨H.av, ⟨hc.os.trans H.chg.os, hc.tape.trans H.chg.tape, hc.output.trans H.chg.output, Nat.le_trans H.chg.size hc.size, fun k hk hn => ?_⟩, ?_, nd2, ?_⟩
    · exact (hc.block k (Nat.lt_of_lt_of_le hk H.chg.size) (fun q => hn (hMk k (hof k q) hk))).trans (H.chg.block k hk hn)
    · intro x hx
      have hin : ∃ y, y ∈ bl ∧ y.1 = x.1 := by
        obtain ⟨y, hy, e⟩ := (h1.of x.1).1 ((h2.of x.1).1 ⟨x, hx, rfl⟩)
        exact ⟨y, hy, e⟩
      obtain ⟨y, hy, e⟩ := hin
      refine ⟨?_, e ▸ (H.blk y hy).2⟩
      by_cases et : x.1 = t
      · have e3 : x = (t, ot) := nd_eq nd2 hx h3.mem et
        rw [e3]; exact ht
      · rcases h2.other nd1 x hx with rfl | ⟨q1, q2⟩
        · exact hb
        · rcases h1.other H.nd x q1 with rfl | ⟨q3, q4⟩
          · exact hg
          · exact (hc.block x.1 (Go.Proofs.YtdaohldmojpihaaGreatDoorEm.obj_lt (H.blk x q3).1) (fun hk => by
              rcases hk with hk | hk | hk
              · exact q2 hk
              · exact et hk
              · exact q4 hk)).trans (H.blk x q3).1
    · exact fun W' k => H.tr W' (fun j hn hj => (k j (fun q => hn (q.imp id (fun q => (h1.of j).1 ((h2.of j).1 q)))) (Nat.lt_of_lt_of_le hj hc.size)).trans (hc.block j hj (fun q => hn (.inr (hof j q)))))
  have hrow : ∀ r : OR, r.own W.heap.size W1 → Tr (fun k => A k ∨ Of bl2 k) W1 (fun W => r.own w.heap.size W) := fun r ho => Tr_ownR ho H.chg.size (fun k hk hD => by
    have q1 := own_lt ho hk
    have q2 := H.avs k (hD.imp id (fun q => (h1.of k).1 ((h2.of k).1 q)))
    omega)
  exact ((hF.and (hrow r2 ho2)).and (hrow r1 ho1)).imp (fun W h => ⟨h.1.1.1, owns_cons.2 ⟨h.2, owns_cons.2 ⟨h.1.2, h.1.1.2⟩⟩⟩)
end Go.Proofs.YtdaohldmojpihaaGreatDoor.G

namespace Go.Proofs.YtdaohldmojpihaaGreatDoor.G
open Go.RowKit Go.Proofs.YtdaohldmojpihaaGreatDoorW.PrintWords Go.Proofs.YtdaohldmojpihaaGreatDoorW.PrintLast Go.Proofs.YtdaohldmojpihaaGreatDoorW.PrintMore Go.Proofs.YtdaohldmojpihaaGreatDoorPl Go.Proofs.YtdaohldmojpihaaGreatDoorEm Go.Proofs.YtdaohldmojpihaaGreatDoorKr Go.Proofs.YtdaohldmojpihaaGreatDoorRz Go.Proofs.YtdaohldmojpihaaGreatDoor.X Go.Proofs.YtdaohldmojpihaaGreatDoorAy
open Go.Proofs.YtdaohldmojpihaaGreatDoor.Mb (Tab FT atF hearF tickF nums GoodF Ab nearE)
set_option linter.unusedVariables false
set_option linter.unusedSimpArgs false
set_option maxRecDepth 100000 in
set_option maxHeartbeats 1000000 in
theorem some_calls (w : World) : Calls Tryz.prog 27 #[] w fun e w' => e = .returned (.agg #[.int .i64 1, .int .i64 0, .int .i64 4, .int .i64 1000, .int .i64 1, .int .i64 100, .int .i64 10, .int .i64 50, .int .i64 20, .int .i64 6, .int .i64 5000, .int .i64 1000]) ∧ Below w.heap.size w w' := by
  have H := Fr.start0 (M := fun _ => False) (A := fun _ => False) (w := w) (p := fun _ => True) (fun _ h => h.elim) (fun _ _ => trivial)
  go_enter Tryz.func27, Tryz.ntmps27
  go_wp2_with (first
    | ((with_reducible refine gate_dst (N := 0) rfl ?_); refine nA #[.int .i64 0, .int .i64 0, .int .i64 0, .int .i64 0, .int .i64 0, .int .i64 0, .int .i64 0, .int .i64 0, .int .i64 0, .int .i64 0, .int .i64 0, .int .i64 0] 23 H ?_; clear H; intro g0 w0 H)
    | ((with_reducible refine gS rfl ?_); refine xS H ?_; clear H; intro w_ H)
    | fail)
  refine bodyPost_ret (results_c rfl _ _ g0 23 _ (0, 0) _ rfl (H.of (by repeat (first | exact At.head | apply At.tail))) Tryz.underlying23 rfl (by kernel_rfl)) rfl ?_
  exact ⟨rfl, H.below⟩
def pN : Par := ⟨1, 0, 4, 1000, 1, 100, 10, 50, 20, 6, 5000, 1000⟩
def sN : St := ⟨0, 0, 0, false, 0, 0, false, [], 0, 0, 0⟩
def hN : Hd := ⟨2, 17, 0, 0, 0, 1, true, false, 0, 0, 0, 0, 0, none, 0, 0, 900⟩
def tN : Option Addr → Nat → List Lp := fun _ _ => []
def fN0 : FT := fun _ => none
def fN1 : FT := tickF 2 (knP 20 fN0 [hN]).2
def fN2 : FT := tickF 2 (knP 20 fN1 [hN]).2
def sN1 : St := ⟨999, 1001, 1000, true, 1, 5, false, [], 1000, 1, 0⟩
theorem sane_N : saneS pN.D sN = sN := by kernel_rfl
theorem know_N0 : (knP 20 fN0 [hN]).1 = [] := by kernel_rfl
theorem know_N1 : (knP 20 fN1 [hN]).1 = [hN] := by kernel_rfl
theorem nums_N : (nums fN2).length = 1 := by kernel_rfl
theorem good_N1 : GoodF fN1 := Mb.GoodF.tick (kn_good _ Mb.good_none)
theorem told_none {N : Int} {l : List Hd} (h : firsts N (-1) l = []) : toldN N l = [] := by
  unfold toldN
  have : told N (-1) l = [] := List.eq_nil_of_length_eq_zero (by unfold told; rw [sortB_length, h]; rfl)
  rw [this]
  rfl
theorem coreB_N {l : List Hd} (h : firsts pN.N (-1) l = []) : coreB pN l = false := by
  unfold coreB coreF coreL
  rw [told_none h]
  kernel_rfl
theorem beat_N0 : beatN0 pN tN [] sN 1000 = ⟨999, 1001, 1000, true, 1, 5, false, [], 1000, 0, 0⟩ := by
  unfold beatN0 nextN
  rw [coreB_N (l := []) (by kernel_rfl)]
  kernel_rfl
theorem beat_N1 : beatN0 pN tN [hN] sN1 1000 = ⟨989, 1001, 995, true, 1, 2, true, [], 1000, 3, 1⟩ := by
  unfold beatN0 nextN
  rw [coreB_N (l := [hN]) (by kernel_rfl)]
  kernel_rfl
theorem tb_ok (ta : Option Addr → Nat → List Lp) (h : ∀ A n, ta A n = []) {l : List Hd} (hl : ∀ x ∈ l, x.n = 0) : tbOk (tbH ta) l := fun x hx => by
  have e : tbH ta x = [] := h _ _
  rw [e, hl x hx]
  exact ⟨rfl, Nat.zero_le _, by decide, fun y hy => by cases hy⟩
theorem Of_at {bl : List (Nat × Obj)} {g : Nat} {o : Obj} (h : At bl g o o bl) : Of bl g := ⟨_, h.mem, rfl⟩
theorem At.mem1 {bl : List (Nat × Obj)} {g : Nat} {o : Obj} (h : At bl g o o bl) : (g, o) ∈ bl := h.mem
theorem Fr.trNd {M A : Nat → Prop} {w W : World} {bl : List (Nat × Obj)} {p : World → Prop} {b t g x : Nat} {ox : Obj} (H : Fr M A w W bl p) (hb : Of bl b) (ht : Of bl t) (hg : Of bl g) (hx : (x, ox) ∈ bl) (hn : x ≠ b ∧ x ≠ t ∧ x ≠ g) : Tr (ndM b t g) W (fun W => p W ∧ W.heap[x]? = some ox) := fun W' hW =>
  ⟨H.tr W' (fun k hk hl => hW k (fun q => by
    rcases q with rfl | rfl | rfl
    · exact hk (.inr hb)
    · exact hk (.inr ht)
    · exact hk (.inr hg)) hl), (hW x (fun q => by rcases q with q | q | q <;> simp_all) (Go.Proofs.YtdaohldmojpihaaGreatDoorEm.obj_lt (H.blk _ hx).1)).trans (H.blk _ hx).1⟩
theorem rowH_one {W : World} {x : Nat} {h : Hd} {t : TypeId} (hb : W.heap[x]? = some (.cells (encH h).toArray t (0, 0))) : RowH W (some ⟨x, 0, none⟩) [h] := fun k hk => by
  have hk0 : k = 0 := by simp at hk; exact hk
  subst hk0
  refine ⟨_, rfl, fun j u hu => ?_⟩
  have := new_cells hb
  have h0 : ((⟨x, 0, none⟩ : Addr).add (0 * 15)) = ⟨x, 0, none⟩ := rfl
  rw [h0]
  exact this j u hu
theorem pcB_N {W : World} {x base : Nat} {A : Option Addr} {c : Nat} {rs : List OR} {t : TypeId} (hx : W.heap[x]? = some (.cells (encH hN).toArray t (0, 0))) (h : Vt.Tb W) (ho : owns base rs W) (hm : OR.mk 72 2 A 0 c [] ∈ rs) : pcB tN (some ⟨x, 0, none⟩) [hN] A [] W :=
  ⟨rowH_one hx, fun y hy => by rw [List.mem_singleton.1 hy]; exact ⟨rfl, by decide, fun h => by cases h⟩, h, own_Cn (l := []) (own_val (owns_at ho hm)) rfl⟩
set_option maxRecDepth 100000 in
set_option maxHeartbeats 8000000 in
theorem alive_calls (w : World) (ht : Vt.Tb w) : Calls Tryz.prog 9 #[] w fun e w' => e = .returned (.bool true) ∧ Below w.heap.size w w' := by
  have H := Fr.start0 (M := fun _ => False) (A := fun _ => False) (w := w) (p := fun W => Vt.Tb W ∧ owns w.heap.size [] W) (fun _ h => h.elim) (fun W hW => ⟨ht.of (hW 0 id ht.lt), fun r hr => by cases hr⟩)
  have KN0 : Hid (∀ W, Calls Tryz.prog 12 #[.agg #[.int .i64 1, .int .i64 0, .int .i64 4, .int .i64 1000, .int .i64 1, .int .i64 100, .int .i64 10, .int .i64 50, .int .i64 20, .int .i64 6, .int .i64 5000, .int .i64 1000], .int .i64 20, .agg #[.int .i64 0, .int .i64 0, .int .i64 0, .bool false, .int .i64 0, .int .i64 0, .bool false, .slice none 0 0, .int .i64 0, .int .i64 0, .int .i64 0]] W fun e w' => ∃ g t b A' c', e = .returned (.pointer (some ⟨g, 0, none⟩)) ∧ (W.heap.size ≤ g ∧ W.heap.size ≤ t ∧ W.heap.size ≤ b) ∧ w'.heap[g]? = some (.cells #[.int .i64 1, .int .i64 0, .int .i64 4, .int .i64 1000, .int .i64 1, .int .i64 100, .int .i64 10, .int .i64 50, .int .i64 20, .int .i64 6, .int .i64 5000, .int .i64 1000, .int .i64 0, .int .i64 0, .int .i64 0, .bool false, .int .i64 0, .int .i64 0, .bool false, .slice A' 0 c', .int .i64 0, .int .i64 0, .int .i64 0, .int .i64 20, .pointer (some ⟨t, 0, none⟩)] 53 (0, 0)) ∧ Tab w' t b fN0 ∧ (OR.mk 72 2 A' 0 c' []).own W.heap.size w' ∧ Below W.heap.size W w') := Lib.hid (fun W => by
    have := NNew_calls pN 20 sN none 0 W ⟨rfl, by decide, fun h => by cases h⟩ (by decide)
    rw [sane_N] at this
    exact this)
  have KB1 : Hid (∀ W g t b x A c, W.heap[g]? = some (.cells #[.int .i64 1, .int .i64 0, .int .i64 4, .int .i64 1000, .int .i64 1, .int .i64 100, .int .i64 10, .int .i64 50, .int .i64 20, .int .i64 6, .int .i64 5000, .int .i64 1000, .int .i64 0, .int .i64 0, .int .i64 0, .bool false, .int .i64 0, .int .i64 0, .bool false, .slice A 0 c, .int .i64 0, .int .i64 0, .int .i64 0, .int .i64 20, .pointer (some ⟨t, 0, none⟩)] 53 (0, 0)) → Tab W t b fN0 → Tr (ndM b t g) W (pcB tN (some ⟨x, 0, none⟩) [hN] A []) → Calls Tryz.prog 13 #[.pointer (some ⟨g, 0, none⟩), .agg #[.int .i64 1000, .slice (some ⟨x, 0, none⟩) 1 1, .bool false, .int .i64 0, .bool false, .slice none 0 0]] W fun e w' => ∃ A1 c1 A2 c2, e = .returned (.agg #[.int .i64 2, .int .i64 20, .int .i64 999, .int .i64 1001, .int .i64 1, .int .i64 5, .bool false, .bool false, .int .i64 0, .int .i64 0, .int .i64 0, .int .i64 1000, .int .i64 1, .slice A2 0 c2]) ∧ w'.heap[g]? = some (.cells #[.int .i64 1, .int .i64 0, .int .i64 4, .int .i64 1000, .int .i64 1, .int .i64 100, .int .i64 10, .int .i64 50, .int .i64 20, .int .i64 6, .int .i64 5000, .int .i64 1000, .int .i64 999, .int .i64 1001, .int .i64 1000, .bool true, .int .i64 1, .int .i64 5, .bool false, .slice A1 0 c1, .int .i64 1000, .int .i64 1, .int .i64 0, .int .i64 20, .pointer (some ⟨t, 0, none⟩)] 53 (0, 0)) ∧ Tab w' t b fN1 ∧ (OR.mk 72 2 A1 0 c1 []).own W.heap.size w' ∧ (OR.mk 72 2 A2 0 c2 []).own W.heap.size w' ∧ Chg (ndM b t g) W w') := Lib.hid (fun W g t b x A c h1 h2 h3 => by
    have := NBeat_calls pN (by decide) 20 sN A c g t b fN0 tN 1000 [hN] (some ⟨x, 0, none⟩) 1 false 0 false none 0 0 W h1 h2 Mb.good_none h3 (tb_ok tN (fun _ _ => rfl) (fun y hy => by rw [List.mem_singleton.1 hy]; rfl)) (by decide) (by decide) (fun y hy => by rw [List.mem_singleton.1 hy]; decide)
    refine this.mono ?_
    rintro e w' ⟨z, l, A1, c1, A2, c2, rfl, rfl, h4, h5, h6, h7, h8, _, h9⟩
    rw [know_N0, beat_N0] at h4 h5 h7 h8
    exact ⟨A1, c1, A2, c2, h4, h5, h6, h7, h8, h9⟩)
  have KB2 : Hid (∀ W g t b x A c, W.heap[g]? = some (.cells #[.int .i64 1, .int .i64 0, .int .i64 4, .int .i64 1000, .int .i64 1, .int .i64 100, .int .i64 10, .int .i64 50, .int .i64 20, .int .i64 6, .int .i64 5000, .int .i64 1000, .int .i64 999, .int .i64 1001, .int .i64 1000, .bool true, .int .i64 1, .int .i64 5, .bool false, .slice A 0 c, .int .i64 1000, .int .i64 1, .int .i64 0, .int .i64 20, .pointer (some ⟨t, 0, none⟩)] 53 (0, 0)) → Tab W t b fN1 → Tr (ndM b t g) W (pcB tN (some ⟨x, 0, none⟩) [hN] A []) → Calls Tryz.prog 13 #[.pointer (some ⟨g, 0, none⟩), .agg #[.int .i64 1000, .slice (some ⟨x, 0, none⟩) 1 1, .bool false, .int .i64 0, .bool false, .slice none 0 0]] W fun e w' => ∃ A1 c1 A2 c2, e = .returned (.agg #[.int .i64 2, .int .i64 20, .int .i64 989, .int .i64 1001, .int .i64 1, .int .i64 2, .bool true, .bool false, .int .i64 0, .int .i64 0, .int .i64 0, .int .i64 1000, .int .i64 4, .slice A2 0 c2]) ∧ w'.heap[g]? = some (.cells #[.int .i64 1, .int .i64 0, .int .i64 4, .int .i64 1000, .int .i64 1, .int .i64 100, .int .i64 10, .int .i64 50, .int .i64 20, .int .i64 6, .int .i64 5000, .int .i64 1000, .int .i64 989, .int .i64 1001, .int .i64 995, .bool true, .int .i64 1, .int .i64 2, .bool true, .slice A1 0 c1, .int .i64 1000, .int .i64 4, .int .i64 1, .int .i64 20, .pointer (some ⟨t, 0, none⟩)] 53 (0, 0)) ∧ Tab w' t b fN2 ∧ (OR.mk 72 2 A1 0 c1 []).own W.heap.size w' ∧ (OR.mk 72 2 A2 0 c2 []).own W.heap.size w' ∧ Chg (ndM b t g) W w') := Lib.hid (fun W g t b x A c h1 h2 h3 => by
    have := NBeat_calls pN (by decide) 20 sN1 A c g t b fN1 tN 1000 [hN] (some ⟨x, 0, none⟩) 1 false 0 false none 0 0 W h1 h2 good_N1 h3 (tb_ok tN (fun _ _ => rfl) (fun y hy => by rw [List.mem_singleton.1 hy]; rfl)) (by decide) (by decide) (fun y hy => by rw [List.mem_singleton.1 hy]; decide)
    refine this.mono ?_
    rintro e w' ⟨z, l, A1, c1, A2, c2, rfl, rfl, h4, h5, h6, h7, h8, _, h9⟩
    rw [know_N1, beat_N1] at h4 h5 h7 h8
    exact ⟨A1, c1, A2, c2, h4, h5, h6, h7, h8, h9⟩)
  have KNe : Hid (∀ W g t b A c, W.heap[g]? = some (.cells #[.int .i64 1, .int .i64 0, .int .i64 4, .int .i64 1000, .int .i64 1, .int .i64 100, .int .i64 10, .int .i64 50, .int .i64 20, .int .i64 6, .int .i64 5000, .int .i64 1000, .int .i64 989, .int .i64 1001, .int .i64 995, .bool true, .int .i64 1, .int .i64 2, .bool true, .slice A 0 c, .int .i64 1000, .int .i64 4, .int .i64 1, .int .i64 20, .pointer (some ⟨t, 0, none⟩)] 53 (0, 0)) → Tab W t b fN2 → Calls Tryz.prog 21 #[.pointer (some ⟨g, 0, none⟩)] W fun e w' => ∃ A' c', e = .returned (.slice A' 1 c') ∧ Below W.heap.size W w') := Lib.hid (fun W g t b A c h1 h2 => by
    refine (NNear_calls pN 20 ⟨989, 1001, 995, true, 1, 2, true, [], 1000, 4, 1⟩ A c g t b fN2 W h1 h2).mono ?_
    rintro e w' ⟨v, rfl, ho, hb⟩
    rw [nums_N] at ho
    rcases ho.2 with ⟨h3, h4⟩ | ⟨g', cap, cur, h3, _⟩
    · cases h4
    · exact ⟨_, _, by rw [h3], hb⟩)
  go_enter Tryz.func9, Tryz.ntmps9
  go_upto_region 6 with (first
    | (go_at_call 27; (with_reducible refine (some_calls _).mono ?_); rintro e w' ⟨rfl, hb⟩; have H1 := H.call hb; clear hb; replace H := H1; clear H1)
    | (go_at_call 12; (with_reducible refine (KN0.out _).mono ?_); rintro e w' ⟨g, t, b, A1, c1, rfl, hl, hg, hT, ho, hB⟩; obtain ⟨o, hO, H1⟩ := Fr.node H hB hl hg hT ho rfl; have HO := Lib.hid hO; clear hl hg hT ho hB hO H; have H := H1; clear H1)
    | (go_at_call 13; have HT0 := Fr.trNd (b := b) (t := t) (g := g) (x := x12) H (Of_at (by repeat (first | exact At.head | apply At.tail))) (Of_at (by repeat (first | exact At.head | apply At.tail))) (Of_at (by repeat (first | exact At.head | apply At.tail))) (At.mem1 (by repeat (first | exact At.head | apply At.tail))) (by have nd := H.nd; simp only [List.pairwise_cons, List.forall_mem_cons, List.not_mem_nil, false_imp_iff, implies_true, and_true] at nd; omega); have HT := Foot.imp HT0 (fun W h => pcB_N h.2 h.1.1 h.1.2 List.mem_cons_self); clear HT0; have HTb := HO.out.tab (H.of (by repeat (first | exact At.head | apply At.tail))) (H.of (by repeat (first | exact At.head | apply At.tail))); (with_reducible refine (Calls.mono (KB1.out _ g t b x12 _ _ (H.of (by repeat (first | exact At.head | apply At.tail))) HTb HT) ?_)); clear HT HTb HO; rintro e w' ⟨A3, c3, A4, c4, rfl, hg, hT, h1, h2, hc⟩; obtain ⟨q1, o', q2, hO, _⟩ := Tab.obj hT; have H1 := Fr.beatN H (by repeat (first | exact At.head | apply At.tail)) (by repeat (first | exact At.head | apply At.tail)) (by repeat (first | exact At.head | apply At.tail)) hg q2 q1 hc h1 h2; have HO := Lib.hid hO; clear hg hT h1 h2 hc q1 q2 hO H; have H := H1; clear H1)
    | ((with_reducible refine gate_dst (N := 12) rfl ?_); refine nR H ?_; clear H; intro x12 w12 H)
    | ((with_reducible refine gate_dst (N := 2) rfl ?_); refine nA #[.int .i64 0, .slice none 0 0, .bool false, .int .i64 0, .bool false, .slice none 0 0] 38 H ?_; clear H; intro g2 w2 H)
    | ((with_reducible refine gate_dst (N := 3) rfl ?_); refine nA #[.int .i64 0, .int .i64 0, .int .i64 0, .int .i64 0, .int .i64 0, .int .i64 0, .bool false, .bool false, .int .i64 0, .int .i64 0, .int .i64 0, .int .i64 0, .int .i64 0, .slice none 0 0] 43 H ?_; clear H; intro g3 w3 H)
    | ((with_reducible refine gS rfl ?_); refine xS H ?_; clear H; intro w_ H)
    | ((with_reducible refine gL rfl ?_); refine xL H ?_)
    | fail)
  clear KN0 KB1
  go_wp2_with (first
    | (go_at_call 13; have HT0 := Fr.trNd (b := b) (t := t) (g := g) (x := x12) H (Of_at (by repeat (first | exact At.head | apply At.tail))) (Of_at (by repeat (first | exact At.head | apply At.tail))) (Of_at (by repeat (first | exact At.head | apply At.tail))) (At.mem1 (by repeat (first | exact At.head | apply At.tail))) (by have nd := H.nd; simp only [List.pairwise_cons, List.forall_mem_cons, List.not_mem_nil, false_imp_iff, implies_true, and_true] at nd; omega); have HT := Foot.imp HT0 (fun W h => pcB_N h.2 h.1.1 h.1.2 List.mem_cons_self); clear HT0; have HTb := HO.out.tab (H.of (by repeat (first | exact At.head | apply At.tail))) (H.of (by repeat (first | exact At.head | apply At.tail))); (with_reducible refine (Calls.mono (KB2.out _ g t b x12 _ _ (H.of (by repeat (first | exact At.head | apply At.tail))) HTb HT) ?_)); clear HT HTb HO; rintro e w' ⟨A3, c3, A4, c4, rfl, hg, hT, h1, h2, hc⟩; obtain ⟨q1, o', q2, hO, _⟩ := Tab.obj hT; have H1 := Fr.beatN H (by repeat (first | exact At.head | apply At.tail)) (by repeat (first | exact At.head | apply At.tail)) (by repeat (first | exact At.head | apply At.tail)) hg q2 q1 hc h1 h2; have HO := Lib.hid hO; clear hg hT h1 h2 hc q1 q2 hO H; have H := H1; clear H1)
    | (go_at_call 21; have HTb := HO.out.tab (H.of (by repeat (first | exact At.head | apply At.tail))) (H.of (by repeat (first | exact At.head | apply At.tail))); (with_reducible refine (Calls.mono (KNe.out _ g t b _ _ (H.of (by repeat (first | exact At.head | apply At.tail))) HTb) ?_)); clear HTb; rintro e w' ⟨A5, c5, rfl, hB⟩; have H1 := H.call hB; clear hB H; have H := H1; clear H1)
    | ((with_reducible refine gate_dst (N := 4) rfl ?_); refine nA #[.int .i64 0, .int .i64 0, .int .i64 0, .int .i64 0, .int .i64 0, .int .i64 0, .bool false, .bool false, .int .i64 0, .int .i64 0, .int .i64 0, .int .i64 0, .int .i64 0, .slice none 0 0] 43 H ?_; clear H; intro g4 w4 H)
    | ((with_reducible refine gS rfl ?_); refine xS H ?_; clear H; intro w_ H)
    | ((with_reducible refine gL rfl ?_); (try (refine gate_guard (by rfl) ?_; dsimp only)); refine xL H ?_)
    | fail)
  go_ret
  exact ⟨rfl, H.below⟩
end Go.Proofs.YtdaohldmojpihaaGreatDoor.G

namespace Go.Proofs.YtdaohldmojpihaaGreatDoor.G
open Go.Proofs.YtdaohldmojpihaaGreatDoorPl
set_option linter.unusedVariables false
set_option linter.unusedSimpArgs false
theorem beat_seen (p : Par) (ta : Option Addr → Nat → List Lp) (l : List Hd) (s : St) (ticks : Int) : (beatN0 p ta l s ticks).lo = (saneS p.D (nextN p ta l s ticks)).lo ∧ (beatN0 p ta l s ticks).hi = (saneS p.D (nextN p ta l s ticks)).hi ∧ (beatN0 p ta l s ticks).held = (saneS p.D (nextN p ta l s ticks)).held ∧ (beatN0 p ta l s ticks).hops = (saneS p.D (nextN p ta l s ticks)).hops ∧ (beatN0 p ta l s ticks).good = (saneS p.D (nextN p ta l s ticks)).good := by
  obtain ⟨h1, h2, _, _, h5, h6, h7, _⟩ := lis_same p l (stepS p s ticks (nextN p ta l s ticks))
  exact ⟨h1, h2, h5, h6, h7⟩
theorem sane_seen {D lo hi held hops : Int} {s1 s2 : St} (h : lo ≤ hi) (a : s1.lo = lo ∧ s1.hi = hi ∧ s1.held = held ∧ s1.hops = hops ∧ s1.good = true) (b : s2.lo = lo ∧ s2.hi = hi ∧ s2.held = held ∧ s2.hops = hops ∧ s2.good = true) :
    (saneS D s1).lo = (saneS D s2).lo ∧ (saneS D s1).hi = (saneS D s2).hi ∧ (saneS D s1).held = (saneS D s2).held ∧ (saneS D s1).hops = (saneS D s2).hops ∧ (saneS D s1).good = true ∧ (saneS D s2).good = true := by
  obtain ⟨a1, a2, a3, a4, a5⟩ := a
  obtain ⟨b1, b2, b3, b4, b5⟩ := b
  have n1 : hollow s1 = false := by unfold hollow; rw [a1, a2]; simpa using clip_mono h
  have n2 : hollow s2 = false := by unfold hollow; rw [b1, b2]; simpa using clip_mono h
  unfold saneS
  dsimp only
  rw [n1, n2, a1, a2, a3, a4, a5, b1, b2, b3, b4, b5]
  simp
theorem node_forgets (p : Par) (ta : Option Addr → Nat → List Lp) (l : List Hd) (sa sb : St) (ticks : Int) (hD : 0 ≤ p.D ∧ p.D ≤ 16) :
    (beatN0 p ta l sa ticks).hops = (beatN0 p ta l sb ticks).hops ∧ (¬ p.D < (beatN0 p ta l sa ticks).hops → (beatN0 p ta l sa ticks).lo = (beatN0 p ta l sb ticks).lo ∧ (beatN0 p ta l sa ticks).hi = (beatN0 p ta l sb ticks).hi ∧ (beatN0 p ta l sa ticks).held = (beatN0 p ta l sb ticks).held ∧ (beatN0 p ta l sa ticks).good = true ∧ (beatN0 p ta l sb ticks).good = true) := by
  obtain ⟨a1, a2, a3, a4, a5⟩ := beat_seen p ta l sa ticks
  obtain ⟨b1, b2, b3, b4, b5⟩ := beat_seen p ta l sb ticks
  rw [a1, a2, a3, a4, a5, b1, b2, b3, b4, b5]
  clear a1 a2 a3 a4 a5 b1 b2 b3 b4 b5
  have key : ∀ (lo hi held hops : Int), lo ≤ hi → ((nextN p ta l sa ticks).lo = lo ∧ (nextN p ta l sa ticks).hi = hi ∧ (nextN p ta l sa ticks).held = held ∧ (nextN p ta l sa ticks).hops = hops ∧ (nextN p ta l sa ticks).good = true) → ((nextN p ta l sb ticks).lo = lo ∧ (nextN p ta l sb ticks).hi = hi ∧ (nextN p ta l sb ticks).held = held ∧ (nextN p ta l sb ticks).hops = hops ∧ (nextN p ta l sb ticks).good = true) → ((saneS p.D (nextN p ta l sa ticks)).hops = (saneS p.D (nextN p ta l sb ticks)).hops ∧ (¬ p.D < (saneS p.D (nextN p ta l sa ticks)).hops → (saneS p.D (nextN p ta l sa ticks)).lo = (saneS p.D (nextN p ta l sb ticks)).lo ∧ (saneS p.D (nextN p ta l sa ticks)).hi = (saneS p.D (nextN p ta l sb ticks)).hi ∧ (saneS p.D (nextN p ta l sa ticks)).held = (saneS p.D (nextN p ta l sb ticks)).held ∧ (saneS p.D (nextN p ta l sa ticks)).good = true ∧ (saneS p.D (nextN p ta l sb ticks)).good = true)) := fun lo hi held hops h a b => by
    obtain ⟨c1, c2, c3, c4, c5, c6⟩ := sane_seen (D := p.D) h a b
    exact And.intro c4 (fun _ : ¬ p.D < (saneS p.D (nextN p ta l sa ticks)).hops => ⟨c1, c2, c3, c5, c6⟩)
  cases hc : coreB p l with
  | true =>
    obtain ⟨f1, f2, f3, hf⟩ : ∃ f1 f2 f3, coreF p l = (f1, f2, f3) := ⟨_, _, _, rfl⟩
    have h3 : f3 = true := by unfold coreB at hc; rw [hf] at hc; exact hc
    subst h3
    have hle := (fuse_ok (f := p.F) (l := (coreL p.N l).map (spW p)) hf).1
    have e : ∀ s, nextN p ta l s ticks = { s with lo := f1, hi := f2, hops := 0, good := true, held := (heldP p.F ((coreL p.N l).map (·.held))).1, tab := (Vt.adoptP p.F s.tab ((coreL p.N l).map (tbH ta))).1 } := fun s => by
      unfold nextN coreS
      rw [hc, if_pos rfl, hf, if_pos rfl]
    exact key f1 f2 _ 0 hle (by rw [e]; exact ⟨rfl, rfl, rfl, rfl, rfl⟩) (by rw [e]; exact ⟨rfl, rfl, rfl, rfl, rfl⟩)
  | false =>
    cases hf : folB p l with
    | true =>
      obtain ⟨m, hm⟩ : ∃ m, chooseP p.D (folM p l) = some m := by
        unfold folB at hf
        exact Option.isSome_iff_exists.1 hf
      have hu := (choose_in hm).2
      have hle : m.lo ≤ m.hi := by
        unfold usN at hu
        simp only [Bool.and_eq_true, Bool.not_eq_true', decide_eq_false_iff_not] at hu
        exact Int.not_lt.1 hu.2
      have e : ∀ s, nextN p ta l s ticks = folStep ta s (some m) := fun s => by
        unfold nextN folS
        rw [hc, if_neg (by decide), hf, if_pos rfl, hm]
      exact key m.lo m.hi (moreP m.held) (m.hops + 1) hle (by rw [e]; exact ⟨rfl, rfl, rfl, rfl, rfl⟩) (by rw [e]; exact ⟨rfl, rfl, rfl, rfl, rfl⟩)
    | false =>
      have e : ∀ s, (saneS p.D (nextN p ta l s ticks)).hops = p.D + 1 := fun s => by
        have e1 : nextN p ta l s ticks = lostS p s ticks := by
          unfold nextN
          rw [hc, if_neg (by decide), hf, if_neg (by decide)]
        rw [e1]
        show bound (p.D + 1) 0 (sadd [p.D, 1]) = p.D + 1
        rw [sadd_two (by omega) (by omega) (by omega), bound_in (by omega) (by omega)]
      rw [e, e]
      exact ⟨rfl, fun h => absurd (show p.D < p.D + 1 by omega) h⟩
end Go.Proofs.YtdaohldmojpihaaGreatDoor.G

namespace Go.Proofs.YtdaohldmojpihaaGreatDoor.G
open Go.RowKit Go.Proofs.YtdaohldmojpihaaGreatDoorW.PrintWords Go.Proofs.YtdaohldmojpihaaGreatDoorW.PrintLast Go.Proofs.YtdaohldmojpihaaGreatDoorW.PrintMore Go.Proofs.YtdaohldmojpihaaGreatDoorPl Go.Proofs.YtdaohldmojpihaaGreatDoorEm Go.Proofs.YtdaohldmojpihaaGreatDoorKr Go.Proofs.YtdaohldmojpihaaGreatDoorRz Go.Proofs.YtdaohldmojpihaaGreatDoor.X
open Go.Proofs.YtdaohldmojpihaaGreatDoor.Mb (Tab FT atF hearF tickF nums GoodF Ab nearE)
set_option linter.unusedVariables false
set_option linter.unusedSimpArgs false
def pNF (ta : Option Addr → Nat → List Lp) (A1 : Option Addr) (l1 : List Hd) (A2 : Option Addr) (l2 : List Hd) (Aa : Option Addr) (a : List Lp) (Ab : Option Addr) (b : List Lp) (W : World) : Prop := RowH W A1 l1 ∧ RowH W A2 l2 ∧ TbW (tbH ta) l1 W ∧ TbW (tbH ta) l2 W ∧ Vt.Tb W ∧ Kd.C k72 W Aa a.length a ∧ Kd.C k72 W Ab b.length b
theorem pNF_1 {ta : Option Addr → Nat → List Lp} {A1 A2 Aa Ab A : Option Addr} {l1 l2 : List Hd} {a b z : List Lp} {W : World} (h : pNF ta A1 l1 A2 l2 Aa a Ab b W) (hz : Kd.C k72 W A z.length z) : pcB ta A1 l1 A z W := ⟨h.1, h.2.2.1, h.2.2.2.2.1, hz⟩
theorem pNF_2 {ta : Option Addr → Nat → List Lp} {A1 A2 Aa Ab A : Option Addr} {l1 l2 : List Hd} {a b z : List Lp} {W : World} (h : pNF ta A1 l1 A2 l2 Aa a Ab b W) (hz : Kd.C k72 W A z.length z) : pcB ta A2 l2 A z W := ⟨h.2.1, h.2.2.2.1, h.2.2.2.2.1, hz⟩
def hdOk (ta : Option Addr → Nat → List Lp) (l : List Hd) : Prop := ∀ h ∈ l, (h.n = (tbH ta h).length ∧ h.n ≤ h.c ∧ ∀ e ∈ tbH ta h, Vt.okE e) ∧ -9223372036854775808 ≤ h.frm ∧ h.frm ≤ 9223372036854775807
theorem hdOk_wf {ta : Option Addr → Nat → List Lp} {l : List Hd} (h : hdOk ta l) : ∀ x ∈ l, -9223372036854775808 ≤ x.frm ∧ x.frm ≤ 9223372036854775807 := fun x hx => (h x hx).2
theorem hdOk_tb {ta : Option Addr → Nat → List Lp} {l : List Hd} (h : hdOk ta l) (hn : ∀ x ∈ l, x.n ≤ 128) : tbOk (tbH ta) l := fun x hx => by
  obtain ⟨⟨h1, h2, h3⟩, _⟩ := h x hx
  have := hn x hx
  exact ⟨h1, h2, by rw [← h1]; omega, h3⟩
theorem greatX_no {x : Inp} (h : greatX x = false) : x.heard.length ≤ 40 ∧ ∀ y ∈ x.heard, y.n ≤ 128 := by
  unfold greatX at h
  simp only [Bool.or_eq_false_iff, decide_eq_false_iff_not, List.any_eq_false, decide_eq_true_eq] at h
  exact ⟨by omega, fun y hy => by have := h.2 y hy; omega⟩
theorem great_two {n : Nat} {y z : InC} (h : greatP n [y, z] = false) : n ≤ 128 ∧ (y.x.heard.length ≤ 40 ∧ ∀ q ∈ y.x.heard, q.n ≤ 128) ∧ (z.x.heard.length ≤ 40 ∧ ∀ q ∈ z.x.heard, q.n ≤ 128) := by
  unfold greatP at h
  simp only [Bool.or_eq_false_iff, List.any_cons, List.any_nil, decide_eq_false_iff_not] at h
  exact ⟨by omega, greatX_no h.2.1, greatX_no h.2.2.1⟩
theorem great_nil {n : Nat} (h : greatP n [] = false) : n ≤ 128 := by
  unfold greatP at h
  simp only [Bool.or_eq_false_iff, decide_eq_false_iff_not] at h
  omega
theorem check_D {p : Par} (h : checkP p = true) : 0 ≤ p.D ∧ p.D ≤ 16 := by
  unfold checkP at h
  simp only [Bool.and_eq_true] at h
  exact in_bd h.1.1.1.1.1.1.2
theorem rowI_two {M A : Nat → Prop} {w W : World} {bl : List (Nat × Obj)} {p : World → Prop} {g : Nat} {y z : InC} (H : Fr M A w W bl p) {t : TypeId} (hb : W.heap[g]? = some (.cells (encI y ++ encI z).toArray t (0, 0))) (hp : ∀ W, p W → RowH W y.Ah y.x.heard ∧ RowH W z.Ah z.x.heard) : Tr (fun _ => False) W (fun W => RowI W (some ⟨g, 0, none⟩) [y, z]) := by
  intro W' hW k hk
  have e : W'.heap[g]? = some (.cells (encI y ++ encI z).toArray t (0, 0)) := (hW g (fun h => h) (Go.Proofs.YtdaohldmojpihaaGreatDoorEm.obj_lt hb)).trans hb
  have hc := new_cells e
  have hp' := hp _ (H.tr W' (fun k hk hl => hW k (fun h => h) hl))
  have hk2 : k = 0 ∨ k = 1 := by simp at hk; omega
  have hly : (encI y).length = 6 := rfl
  rcases hk2 with rfl | rfl
  · refine ⟨⟨_, rfl, fun j u hu => ?_⟩, hp'.1⟩
    have h0 : ((⟨g, 0, none⟩ : Addr).add (0 * 6)) = ⟨g, 0, none⟩ := rfl
    rw [h0]
    have hj : j < (encI y).length := (List.getElem?_eq_some_iff.1 hu).1
    exact hc j u (by rw [List.getElem?_append_left hj]; exact hu)
  · refine ⟨⟨_, rfl, fun j u hu => ?_⟩, hp'.2⟩
    have h0 : (((⟨g, 0, none⟩ : Addr).add (1 * 6)).add j) = (⟨g, 0, none⟩ : Addr).add (6 + j) := by simp [Addr.add]
    rw [h0]
    exact hc (6 + j) u (by rw [List.getElem?_append_right (by omega)]; simpa [hly] using hu)
def beatT (p : Par) (ta : Option Addr → Nat → List Lp) (l : List Hd) (s : St) (ticks : Int) : St :=
  { beatN0 p ta l s ticks with st := (tickP (beatN0 p ta l s ticks).st (beatN0 p ta l s ticks).sn (beatN0 p ta l s ticks).time).1, sn := (tickP (beatN0 p ta l s ticks).st (beatN0 p ta l s ticks).sn (beatN0 p ta l s ticks).time).2 }
theorem next_le {p : Par} {ta : Option Addr → Nat → List Lp} {me : Int} {f : FT} {hd l : List Hd} {s : St} {ticks : Int} (hl : (knP me f hd).1 = l) (ho : tbOk (tbH ta) hd) (hs : s.tab.length ≤ 4096) : (beatT p ta l s ticks).tab.length ≤ 4096 := by
  have hokl : tbOk (tbH ta) l := fun x hx => ho x (kn_mem me f hd x (by rw [hl]; exact hx))
  have := next_len (p := p) (ticks := ticks) hokl hs
  have h2 := (lis_same p l (stepS p s ticks (nextN p ta l s ticks))).2.2.2.2.2.2.2.1
  show (beatN0 p ta l s ticks).tab.length ≤ 4096
  unfold beatN0
  rw [h2]
  have h3 := sane_len p.D (nextN p ta l s ticks)
  have h4 : (stepS p s ticks (nextN p ta l s ticks)).tab = (saneS p.D (nextN p ta l s ticks)).tab := rfl
  rw [h4]
  omega
theorem Fr.trN3 {M A : Nat → Prop} {w W : World} {bl : List (Nat × Obj)} {p : World → Prop} {b t g : Nat} (H : Fr M A w W bl p) (hb : Of bl b) (ht : Of bl t) (hg : Of bl g) : Tr (ndM b t g) W p := Tr.less H.tr (fun k _ q => by
    rcases q with rfl | rfl | rfl
    · exact .inr hb
    · exact .inr ht
    · exact .inr hg)
end Go.Proofs.YtdaohldmojpihaaGreatDoor.G
