/- Texts Ym, Gp, in one file, without what is not needed here. -/
import Derived.Test.YtbmfgcekglgliaaGreatZGateKeeps13
namespace Go.Proofs.YtbmfgcekglgliaaGreat.G
open Go.RowKit Go.Proofs.YtbmfgcekglgliaaGreatW.PrintWords Go.Proofs.YtbmfgcekglgliaaGreatW.PrintLast Go.Proofs.YtbmfgcekglgliaaGreatW.PrintMore Go.Proofs.YtbmfgcekglgliaaGreatPl Go.Proofs.YtbmfgcekglgliaaGreatEm Go.Proofs.YtbmfgcekglgliaaGreatKr Go.Proofs.YtbmfgcekglgliaaGreatRz Go.Proofs.YtbmfgcekglgliaaGreat.X
set_option linter.unusedVariables false
set_option linter.unusedSimpArgs false
theorem own_C' {W : World} {b n c : Nat} {A : Option Addr} {l : List Lp} (h : W.ownsRow b 58 2 (.slice A n c) n (flL l)) : Kd.C k58 W A l.length l := by
  have hn : l.length = n := by have := h.1; rw [flL_length] at this; omega
  obtain ⟨A2, c2, e, _, h4, _⟩ := row_C h hn
  injection e with e1 e2 e3
  rw [e1, hn]
  exact h4
set_option maxRecDepth 100000 in
set_option maxHeartbeats 40000000 in
theorem RBeat_calls (p : Par) (me : Int) (s : St) (A : Option Addr) (c : Nat) (x : Inp) (Ah : Option Addr) (ch : Nat) (Ax : Option Addr) (ct : Nat) (w : World) (hr : Tr (fun _ => False) w (pR Ah x.heard Ax x.tab A s.tab)) (hl : x.heard.length ≤ 4096) (hlt : x.tab.length ≤ 4096) (hls : s.tab.length ≤ 4096) :
    Calls Tryz.prog 14 #[.agg #[.int .i64 p.N, .int .i64 p.F, .int .i64 p.D, .int .i64 p.Be, .int .i64 p.Rho, .int .i64 p.De, .int .i64 p.Ji, .int .i64 p.Eps, .int .i64 p.Mu, .int .i64 p.Ho, .int .i64 p.Pu, .int .i64 p.Se], .int .i64 me, .agg #[.int .i64 s.lo, .int .i64 s.hi, .int .i64 s.time, .bool s.set, .int .i64 s.held, .int .i64 s.hops, .bool s.good, .slice A s.tab.length c, .int .i64 s.st, .int .i64 s.sn, .int .i64 s.life], .agg #[.int .i64 x.ticks, .slice Ah x.heard.length ch, .bool x.ref, .int .i64 x.reading, .bool x.given, .slice Ax x.tab.length ct]] w fun e w' => ∃ A1 c1 A2 c2, e = .returned (.tuple #[.agg #[.int .i64 (beatS0 p me s x).lo, .int .i64 (beatS0 p me s x).hi, .int .i64 (beatS0 p me s x).time, .bool (beatS0 p me s x).set, .int .i64 (beatS0 p me s x).held, .int .i64 (beatS0 p me s x).hops, .bool (beatS0 p me s x).good, .slice A1 (beatS0 p me s x).tab.length c1, .int .i64 (beatS p me s x).st, .int .i64 (beatS p me s x).sn, .int .i64 (beatS0 p me s x).life], .agg #[.int .i64 1, .int .i64 me, .int .i64 (beatS0 p me s x).lo, .int .i64 (beatS0 p me s x).hi, .int .i64 (beatS0 p me s x).held, .int .i64 (beatS0 p me s x).hops, .bool (beatS0 p me s x).good, .bool (rdB p x), .int .i64 (snP p x).1, .int .i64 (snP p x).2, .int .i64 (pulseS p (beatS0 p me s x)), .int .i64 (beatS p me s x).st, .int .i64 (beatS p me s x).sn, .slice A2 (beatS0 p me s x).tab.length c2]]) ∧ w'.ownsRow w.heap.size 58 2 (.slice A1 (beatS0 p me s x).tab.length c1) (beatS0 p me s x).tab.length (flL (beatS0 p me s x).tab) ∧ w'.ownsRow w.heap.size 58 2 (.slice A2 (beatS0 p me s x).tab.length c2) (beatS0 p me s x).tab.length (flL (beatS0 p me s x).tab) ∧ Below w.heap.size w w' := by
  have H := Fr.start0 (M := fun _ => False) (A := fun _ => False) (p := pR Ah x.heard Ax x.tab A s.tab) (fun _ h => h.elim) hr
  have HR0 := Lib.hid hr
  obtain ⟨z, hz⟩ : ∃ z, beatS0 p me s x = z := ⟨_, rfl⟩
  obtain ⟨pz, hpz⟩ : ∃ y, pulseS p z = y := ⟨_, rfl⟩
  obtain ⟨rb, hrb⟩ : ∃ y, rdB p x = y := ⟨_, rfl⟩
  obtain ⟨⟨q1, q2⟩, hq⟩ : ∃ y, snP p x = y := ⟨_, rfl⟩
  obtain ⟨⟨y1, y2⟩, hy⟩ : ∃ y, tickP z.st z.sn z.time = y := ⟨_, rfl⟩
  have hbs : (beatS p me s x).st = y1 ∧ (beatS p me s x).sn = y2 := by
    unfold beatS stampS
    rw [hz, hy]
    exact ⟨rfl, rfl⟩
  rw [hbs.1, hbs.2, hz, hpz, hrb, hq]
  dsimp only
  clear hbs
  have HZ := Lib.hid hz
  have HPZ := Lib.hid hpz
  have HRB := Lib.hid (And.intro hrb hq)
  have HY := Lib.hid hy
  clear hz hpz hrb hq hy
  obtain ⟨lo, hi, time, set, held, hops, good, tab, st, sn, life⟩ := s
  obtain ⟨ticks, heard, ref, reading, given, ttab⟩ := x
  obtain ⟨n, hn⟩ : ∃ n, tab.length = n := ⟨_, rfl⟩
  obtain ⟨nh, hnh⟩ : ∃ n, heard.length = n := ⟨_, rfl⟩
  obtain ⟨nt, hnt⟩ : ∃ n, ttab.length = n := ⟨_, rfl⟩
  obtain ⟨sb, hsb⟩ : ∃ b, seenB p reading = b := ⟨_, rfl⟩
  obtain ⟨⟨s1, s2⟩, hss⟩ : ∃ b, seenP p reading = b := ⟨_, rfl⟩
  obtain ⟨ul, hul⟩ : ∃ l, toldR me heard (upT p.N) = l := ⟨_, rfl⟩
  obtain ⟨m, hm⟩ : ∃ k, ul.length = k := ⟨_, rfl⟩
  have HN := Lib.hid (And.intro hn (And.intro hnh hnt))
  have HUM : Hid (ul.length = m ∧ unB (told p.N me heard) = ul ∧ m ≤ 16) := Lib.hid ⟨hm, by rw [← toldR_told, hul], by
    rw [← hm, ← hul]
    refine Nat.le_trans (toldR_len _ _ _) ?_
    unfold upT
    split <;> omega⟩
  have HRS : Hid ((sb && ref) = rb ∧ (q1, q2) = (if rb = true then (s1, s2) else (0, 0)) ∧ seenL p ⟨ticks, heard, ref, reading, given, ttab⟩ = (if rb = true then [⟨q1, q2⟩] else [])) := Lib.hid (by
    have e1 : (sb && ref) = rb := by rw [← HRB.out.1]; unfold rdB; rw [hsb]
    refine ⟨e1, ?_, ?_⟩
    · rw [← HRB.out.2]; unfold snP; rw [HRB.out.1]; dsimp only; rw [hss]
    · unfold seenL; rw [HRB.out.1, HRB.out.2])
  obtain ⟨i1, hi1, hy0, hy1, hy2⟩ := info_parts infoS
  have KSeen : Hid (∀ W, Calls Tryz.prog 36 #[.agg #[.int .i64 p.N, .int .i64 p.F, .int .i64 p.D, .int .i64 p.Be, .int .i64 p.Rho, .int .i64 p.De, .int .i64 p.Ji, .int .i64 p.Eps, .int .i64 p.Mu, .int .i64 p.Ho, .int .i64 p.Pu, .int .i64 p.Se], .int .i64 reading] W fun e w' => e = .returned (.tuple #[.agg #[.int .i64 s1, .int .i64 s2], .bool sb]) ∧ Below W.heap.size W w') := Lib.hid (fun W => by have := RSeen_calls p reading W; rw [hsb, hss] at this; exact this)
  have KTold : Hid (∀ W, Tr (fun _ => False) W (fun W => RowH W Ah heard) → Calls Tryz.prog 11 #[.agg #[.int .i64 p.N, .int .i64 p.F, .int .i64 p.D, .int .i64 p.Be, .int .i64 p.Rho, .int .i64 p.De, .int .i64 p.Ji, .int .i64 p.Eps, .int .i64 p.Mu, .int .i64 p.Ho, .int .i64 p.Pu, .int .i64 p.Se], .int .i64 me, .slice Ah nh ch] W fun e w' => ∃ A' c', e = .returned (.slice A' m c') ∧ w'.ownsRow W.heap.size 49 15 (.slice A' m c') m (flH ul) ∧ Below W.heap.size W w') := Lib.hid (fun W h => by have := RTold_calls p me Ah ch heard W h hl; rw [hnh, hul, hm] at this; exact this)
  have HL := Lib.hid (And.intro hl (And.intro hlt hls))
  dsimp only at H hl hlt hls HR0 ⊢
  rw [hn]
  rw [hnh, hnt]
  clear hr hl hlt hls hn hnh hnt hsb hss hul hm
  go_enter Tryz.func14, Tryz.ntmps14
  go_upto_region 3 with (first
    | (go_at_call 36; (with_reducible refine (KSeen.out _).mono ?_); rintro e w' ⟨rfl, hb⟩; have H1 := H.call hb; clear hb; replace H := H1; clear H1)
    | ((with_reducible refine gate_dst (N := 4) rfl ?_); refine fr_box H rfl rfl rfl ?_; intro g4 w4 H1; replace H := H1; clear H1)
    | ((with_reducible refine gate_dst (N := 6) rfl ?_); refine fr_box H rfl rfl rfl ?_; intro g6 w6 H1; replace H := H1; clear H1)
    | ((with_reducible refine gate_dst (N := 7) rfl ?_); refine fr_box H rfl rfl rfl ?_; intro g7 w7 H1; replace H := H1; clear H1)
    | ((with_reducible refine gate_dst (N := 8) rfl ?_); refine fr_new H (N := 8) rfl rfl (cs := #[.int .i64 0, .int .i64 0, .int .i64 0, .bool false, .int .i64 0, .int .i64 0, .bool false, .slice none 0 0, .int .i64 0, .int .i64 0, .int .i64 0]) (t := 30) ?hr ?_; (case hr => first | (go_simp; done) | (go_simp; rfl)); intro g8 w8 H1; replace H := H1; clear H1)
    | ((with_reducible refine gate_dst (N := 9) rfl ?_); refine fr_new H (N := 9) rfl rfl (cs := #[.int .i64 0, .int .i64 0, .int .i64 0, .int .i64 0, .int .i64 0, .int .i64 0, .bool false, .bool false, .int .i64 0, .int .i64 0, .int .i64 0, .int .i64 0, .int .i64 0, .slice none 0 0]) (t := 47) ?hr ?_; (case hr => first | (go_simp; done) | (go_simp; rfl)); intro g9 w9 H1; replace H := H1; clear H1)
    | ((with_reducible refine gate_dst (N := 19) rfl ?_); refine fr_sub H (n := 12) rfl rfl rfl (by repeat (first | exact At.head | apply At.tail)) Tryz.underlying23 rfl (by kernel_rfl) (by simp only [List.toList_toArray, List.drop_succ_cons, List.drop_zero, List.take_succ_cons, List.take_zero]; rfl) (by rfl) ?_)
    | ((with_reducible refine gate_dst (N := 21) rfl ?_); refine fr_get H rfl rfl rfl (by repeat (first | exact At.head | apply At.tail)) Tryz.underlying3 rfl (by simp only [List.getElem?_toArray, List.getElem?_cons_succ, List.getElem?_cons_zero]; rfl) ?_)
    | ((with_reducible refine gate_dst (N := 10) rfl ?_); refine fr_new H (N := 10) rfl rfl (cs := #[.int .i64 0, .int .i64 0]) (t := 25) ?hr ?_; (case hr => first | (go_simp; done) | (go_simp; rfl)); intro g10 w10 H1; replace H := H1; clear H1)
    | ((with_reducible refine gate_store (t := 25) (p := 10) rfl ?_); refine fr_put H rfl rfl rfl rfl rfl (by repeat (first | exact At.head | apply At.tail)) (by rfl) (by kernel_rfl) (by simp [Value.oneCell']) ?_; intro w10_ H1; replace H := H1; clear H1)
    | fail)
  go_cut [29] (fun v29 wc => v29 = .bool rb ∧ Fr (fun _ => False) (fun _ => False) w wc [(g10, .cells #[.int .i64 s1, .int .i64 s2] 25 (0, 0)), (g9, .cells #[.int .i64 0, .int .i64 0, .int .i64 0, .int .i64 0, .int .i64 0, .int .i64 0, .bool false, .bool false, .int .i64 0, .int .i64 0, .int .i64 0, .int .i64 0, .int .i64 0, .slice none 0 0] 47 (0, 0)), (g8, .cells #[.int .i64 0, .int .i64 0, .int .i64 0, .bool false, .int .i64 0, .int .i64 0, .bool false, .slice none 0 0, .int .i64 0, .int .i64 0, .int .i64 0] 30 (0, 0)), (g7, .cells #[.int .i64 ticks, .slice Ah nh ch, .bool ref, .int .i64 reading, .bool given, .slice Ax nt ct] 44 (0, 0)), (g6, .cells #[.int .i64 lo, .int .i64 hi, .int .i64 time, .bool set, .int .i64 held, .int .i64 hops, .bool good, .slice A n c, .int .i64 st, .int .i64 sn, .int .i64 life] 30 (0, 0)), (g4, .cells #[.int .i64 p.N, .int .i64 p.F, .int .i64 p.D, .int .i64 p.Be, .int .i64 p.Rho, .int .i64 p.De, .int .i64 p.Ji, .int .i64 p.Eps, .int .i64 p.Mu, .int .i64 p.Ho, .int .i64 p.Pu, .int .i64 p.Se] 23 (0, 0))] (pR Ah heard Ax ttab A tab))
  case first =>
    cases sb
    all_goals
      go_wp2_with (first
        | ((with_reducible refine gate_dst (N := 28) rfl ?_); (try (refine gate_guard (by rfl) ?_; dsimp only)); refine fr_get H rfl rfl rfl (by repeat (first | exact At.head | apply At.tail)) Tryz.underlying4 rfl (by simp only [List.getElem?_toArray, List.getElem?_cons_succ, List.getElem?_cons_zero]; rfl) ?_)
        | fail)
      go_meet
      case rel => exact ⟨by rw [← HRS.out.1]; rfl, H⟩
  case rest =>
  obtain ⟨rfl, H1⟩ := hcut
  clear H
  have H := H1
  clear H1
  go_upto_if 29 with fail
  go_cut [11, 12] (fun v11 v12 wc => v11 = .bool rb ∧ ∃ (Ao : Option Addr) (on co : Nat), v12 = .slice Ao on co ∧ on ≤ co ∧ on ≤ 1 ∧ Hid ((seenL p ⟨ticks, heard, ref, reading, given, ttab⟩).length = on) ∧ Hid (wc.ownsRow w.heap.size 25 2 (.slice Ao on co) on (flS (seenL p ⟨ticks, heard, ref, reading, given, ttab⟩))) ∧ Hid (∀ ad, Ao = some ad → g10 ≠ ad.block) ∧ Fr (fun _ => False) (fun _ => False) w wc [(g10, .cells #[.int .i64 q1, .int .i64 q2] 25 (0, 0)), (g9, .cells #[.int .i64 0, .int .i64 0, .int .i64 0, .int .i64 0, .int .i64 0, .int .i64 0, .bool false, .bool false, .int .i64 0, .int .i64 0, .int .i64 0, .int .i64 0, .int .i64 0, .slice none 0 0] 47 (0, 0)), (g8, .cells #[.int .i64 0, .int .i64 0, .int .i64 0, .bool false, .int .i64 0, .int .i64 0, .bool false, .slice none 0 0, .int .i64 0, .int .i64 0, .int .i64 0] 30 (0, 0)), (g7, .cells #[.int .i64 ticks, .slice Ah nh ch, .bool ref, .int .i64 reading, .bool given, .slice Ax nt ct] 44 (0, 0)), (g6, .cells #[.int .i64 lo, .int .i64 hi, .int .i64 time, .bool set, .int .i64 held, .int .i64 hops, .bool good, .slice A n c, .int .i64 st, .int .i64 sn, .int .i64 life] 30 (0, 0)), (g4, .cells #[.int .i64 p.N, .int .i64 p.F, .int .i64 p.D, .int .i64 p.Be, .int .i64 p.Rho, .int .i64 p.De, .int .i64 p.Ji, .int .i64 p.Eps, .int .i64 p.Mu, .int .i64 p.Ho, .int .i64 p.Pu, .int .i64 p.Se] 23 (0, 0))] (pR Ah heard Ax ttab A tab))
  case first =>
    cases rb
    · have e1 : q1 = 0 ∧ q2 = 0 := by have := HRS.out.2.1; simpa using this
      obtain ⟨rfl, rfl⟩ := e1
      go_wp2_with (first
        | ((with_reducible refine gate_store (t := 25) (p := 10) rfl ?_); refine fr_put H rfl rfl rfl rfl rfl (by repeat (first | exact At.head | apply At.tail)) (by rfl) (by kernel_rfl) (by simp [Value.oneCell']) ?_; intro w10_ H1; replace H := H1; clear H1)
        | fail)
      go_meet
      case rel => exact ⟨rfl, none, 0, 0, rfl, by omega, by omega, Lib.hid (by rw [HRS.out.2.2]; rfl), Lib.hid (by rw [HRS.out.2.2]; exact World.ownsRow_nil _ _ _ _), Lib.hid (fun ad e => by cases e), H⟩
    · have e1 : q1 = s1 ∧ q2 = s2 := by have := HRS.out.2.1; simpa using this
      obtain ⟨rfl, rfl⟩ := e1
      obtain rfl : sb = true := by have := HRS.out.1; revert this; cases sb <;> simp
      go_wp2_with (first
        | (at_builtin; refine wpList_append_own_at _ rfl _ _ 78 rfl w.heap.size 25 i1 _ 2 16 Tryz.underlying78 hi1 hy0 hy1 hy2 rfl (by decide) (.slice none 0 0) 0 [] rfl (World.ownsRow_nil _ _ _ _) ⟨x32, 0, none⟩ 1 1 [.int .i64 q1, .int .i64 q2] rfl rfl ?hn ?h1 (by unfold maxLen; omega) (by omega) H.chg.size ?_; (case hn => exact new_cells (H.of At.head)); (case h1 => exact flS_one q1 q2); intro v2 w2 hown hgrow hnil hat)
        | ((with_reducible refine gate_dst (N := 31) rfl ?_); refine fr_sub H (n := 2) rfl rfl rfl (by repeat (first | exact At.head | apply At.tail)) Tryz.underlying25 rfl (by kernel_rfl) (by simp only [List.toList_toArray, List.drop_succ_cons, List.drop_zero, List.take_succ_cons, List.take_zero]; rfl) (by rfl) ?_)
        | ((with_reducible refine gate_dst (N := 32) rfl ?_); refine fr_rowv H (N := 32) rfl rfl (fun K hK => by go_simp; exact hK.out) ?_; intro x32 w32 H1; replace H := H1; clear H1)
        | fail)
      have hlt6 := Go.Proofs.YtbmfgcekglgliaaGreatEm.obj_lt (H.of (At.tail At.head))
      have HA := Fr.appended2 (H.drop) (fun k h => h) HR0.out (World.ownsRow_nil w32 w.heap.size 25 2) (fun y hy ad e => by cases e) hgrow
      rcases hown.2 with ⟨_, h3⟩ | ⟨g8', cap, cur, rfl, h3, h4, h5, h6, h7, h8⟩
      · omega
      · go_meet
        case rel =>
          refine ⟨rfl, some ⟨g8', 0, none⟩, 1, cap, rfl, h5, by omega, Lib.hid (by rw [HRS.out.2.2]; rfl), Lib.hid (by rw [HRS.out.2.2]; exact hown), Lib.hid (fun ad e => ?_), HA⟩
          cases e
          rcases hat with q | q
          · cases q
          · injection q with q
            have q' : g8' = _ := q
            intro e6
            have e6' : g10 = g8' := e6
            rw [e6', q'] at hlt6
            exact Nat.lt_irrefl _ hlt6
  case rest =>
  obtain ⟨rfl, Ao, on, co, rfl, hco, hon1, HLEN, HO, H6, H1⟩ := hcut
  clear H
  have H := H1
  clear H1
  go_wp2_with (first
    | (go_at_call 11; (with_reducible refine (KTold.out _ (Tr.later (RowH_of HR0.out) H.chg (fun k h => h) (fun k h _ => h.elim))).mono ?_); rintro e w' ⟨Av, cv, rfl, ho, hb⟩; have HTO := Lib.hid (row_mono H.chg.size ho); have HO1 := Lib.hid (own_below HO.out hb); clear HO; have HO := HO1; clear HO1; have H1 := H.call hb; clear hb ho H; have H := H1; clear H1)
    | ((with_reducible refine gate_dst (N := 35) rfl ?_); refine fr_sub H (n := 12) rfl rfl rfl (by repeat (first | exact At.head | apply At.tail)) Tryz.underlying23 rfl (by kernel_rfl) (by simp only [List.toList_toArray, List.drop_succ_cons, List.drop_zero, List.take_succ_cons, List.take_zero]; rfl) (by rfl) ?_)
    | ((with_reducible refine gate_dst (N := 38) rfl ?_); refine fr_get H rfl rfl rfl (by repeat (first | exact At.head | apply At.tail)) Tryz.underlying42 rfl (by simp only [List.getElem?_toArray, List.getElem?_cons_succ, List.getElem?_cons_zero]; rfl) ?_)
    | fail)
  have HSP : Hid (seenL p ⟨ticks, heard, ref, reading, given, ttab⟩ ++ waysOf p (ul.take 0) = seenL p ⟨ticks, heard, ref, reading, given, ttab⟩) := Lib.hid (by simp [waysOf])
  go_loopw [12, 41] (fun v12 v41 wr => ∃ (k : Nat) (Ao : Option Addr) (on co : Nat), k ≤ m ∧ v41 = .int .i64 k ∧ v12 = .slice Ao on co ∧ on ≤ co ∧ on ≤ 1 + k ∧ Hid ((seenL p ⟨ticks, heard, ref, reading, given, ttab⟩ ++ waysOf p (ul.take k)).length = on) ∧ Hid (wr.ownsRow w.heap.size 25 2 (.slice Ao on co) on (flS (seenL p ⟨ticks, heard, ref, reading, given, ttab⟩ ++ waysOf p (ul.take k)))) ∧ Hid (∀ ad, Ao = some ad → g10 ≠ ad.block) ∧ Hid (wr.ownsRow w.heap.size 49 15 (.slice Av m cv) m (flH ul)) ∧ Fr (fun _ => False) (fun _ => False) w wr [(g10, .cells #[.int .i64 q1, .int .i64 q2] 25 (0, 0)), (g9, .cells #[.int .i64 0, .int .i64 0, .int .i64 0, .int .i64 0, .int .i64 0, .int .i64 0, .bool false, .bool false, .int .i64 0, .int .i64 0, .int .i64 0, .int .i64 0, .int .i64 0, .slice none 0 0] 47 (0, 0)), (g8, .cells #[.int .i64 0, .int .i64 0, .int .i64 0, .bool false, .int .i64 0, .int .i64 0, .bool false, .slice none 0 0, .int .i64 0, .int .i64 0, .int .i64 0] 30 (0, 0)), (g7, .cells #[.int .i64 ticks, .slice Ah nh ch, .bool ref, .int .i64 reading, .bool given, .slice Ax nt ct] 44 (0, 0)), (g6, .cells #[.int .i64 lo, .int .i64 hi, .int .i64 time, .bool set, .int .i64 held, .int .i64 hops, .bool good, .slice A n c, .int .i64 st, .int .i64 sn, .int .i64 life] 30 (0, 0)), (g4, .cells #[.int .i64 p.N, .int .i64 p.F, .int .i64 p.D, .int .i64 p.Be, .int .i64 p.Rho, .int .i64 p.De, .int .i64 p.Ji, .int .i64 p.Eps, .int .i64 p.Mu, .int .i64 p.Ho, .int .i64 p.Pu, .int .i64 p.Se] 23 (0, 0))] (pR Ah heard Ax ttab A tab)) (fun _ v41 _ => m - (intOf v41).toNat)
  case atStart => exact ⟨0, Ao, on, co, by omega, rfl, rfl, hco, by omega, Lib.hid (by rw [HSP.out]; exact HLEN.out), Lib.hid (by rw [HSP.out]; exact HO.out), H6, HTO, H⟩
  case round =>
  clear H HO HTO H6 HLEN hco hon1
  obtain ⟨k, Ao, on, co, hk, rfl, rfl, hco, hon, HLEN, HO, H6, HTO, H⟩ := hrel
  by_cases hlt : k < m
  · as_aux_lemma =>
      have hkl : k < ul.length := by rw [HUM.out.1]; exact hlt
      have hk1 : (k : Int) < (m : Int) := by omega
      have hm16 := HUM.out.2.2
      have hs1 : -9223372036854775808 ≤ (k : Int) + 1 := by omega
      have hs2 : (k : Int) + 1 ≤ 9223372036854775807 := by omega
      obtain ⟨ad, e, hx⟩ := rowH_own HTO.out k hkl
      cases e
      obtain ⟨y, hye⟩ : ∃ y, ul[k] = y := ⟨_, rfl⟩
      rw [hye] at hx
      have HT : Hid (waysOf p (ul.take (k + 1)) = waysOf p (ul.take k) ++ (if y.ref = true then [wayOf p y] else [])) := Lib.hid (by rw [List.take_succ_eq_append_getElem hkl, hye, waysOf_snoc])
      have HNE : ∀ x, x ∈ ([(g9, .cells #[.int .i64 0, .int .i64 0, .int .i64 0, .int .i64 0, .int .i64 0, .int .i64 0, .bool false, .bool false, .int .i64 0, .int .i64 0, .int .i64 0, .int .i64 0, .int .i64 0, .slice none 0 0] 47 (0, 0)), (g8, .cells #[.int .i64 0, .int .i64 0, .int .i64 0, .bool false, .int .i64 0, .int .i64 0, .bool false, .slice none 0 0, .int .i64 0, .int .i64 0, .int .i64 0] 30 (0, 0)), (g7, .cells #[.int .i64 ticks, .slice Ah nh ch, .bool ref, .int .i64 reading, .bool given, .slice Ax nt ct] 44 (0, 0)), (g6, .cells #[.int .i64 lo, .int .i64 hi, .int .i64 time, .bool set, .int .i64 held, .int .i64 hops, .bool good, .slice A n c, .int .i64 st, .int .i64 sn, .int .i64 life] 30 (0, 0)), (g4, .cells #[.int .i64 p.N, .int .i64 p.F, .int .i64 p.D, .int .i64 p.Be, .int .i64 p.Rho, .int .i64 p.De, .int .i64 p.Ji, .int .i64 p.Eps, .int .i64 p.Mu, .int .i64 p.Ho, .int .i64 p.Pu, .int .i64 p.Se] 23 (0, 0))] : List (Nat × Obj)) → ∀ ad, Ao = some ad → x.1 ≠ ad.block := by
        intro x hx
        simp only [List.mem_cons, List.not_mem_nil, or_false] at hx
        rcases hx with rfl | rfl | rfl | rfl | rfl
        all_goals exact own_ne HO.out (H.of (by repeat (first | exact At.head | apply At.tail))) (by decide)
      have HNE2 : ∀ x, x ∈ ([(g10, .cells #[.int .i64 q1, .int .i64 q2] 25 (0, 0)), (g9, .cells #[.int .i64 0, .int .i64 0, .int .i64 0, .int .i64 0, .int .i64 0, .int .i64 0, .bool false, .bool false, .int .i64 0, .int .i64 0, .int .i64 0, .int .i64 0, .int .i64 0, .slice none 0 0] 47 (0, 0)), (g8, .cells #[.int .i64 0, .int .i64 0, .int .i64 0, .bool false, .int .i64 0, .int .i64 0, .bool false, .slice none 0 0, .int .i64 0, .int .i64 0, .int .i64 0] 30 (0, 0)), (g7, .cells #[.int .i64 ticks, .slice Ah nh ch, .bool ref, .int .i64 reading, .bool given, .slice Ax nt ct] 44 (0, 0)), (g6, .cells #[.int .i64 lo, .int .i64 hi, .int .i64 time, .bool set, .int .i64 held, .int .i64 hops, .bool good, .slice A n c, .int .i64 st, .int .i64 sn, .int .i64 life] 30 (0, 0)), (g4, .cells #[.int .i64 p.N, .int .i64 p.F, .int .i64 p.D, .int .i64 p.Be, .int .i64 p.Rho, .int .i64 p.De, .int .i64 p.Ji, .int .i64 p.Eps, .int .i64 p.Mu, .int .i64 p.Ho, .int .i64 p.Pu, .int .i64 p.Se] 23 (0, 0))] : List (Nat × Obj)) → ∀ ad, Ao = some ad → x.1 ≠ ad.block := by
        intro x hx
        rcases List.mem_cons.1 hx with rfl | hx
        · exact H6.out
        · exact HNE x hx
      have H1 := H.and (Tr.and (Tr_own3 H HO.out HNE2) (Tr_own2 H HTO.out (Nat.le_refl _) (Nat.le_refl _) (fun x hx => by
        simp only [List.mem_cons, List.not_mem_nil, or_false] at hx
        rcases hx with rfl | rfl | rfl | rfl | rfl | rfl <;> exact ⟨_, _, rfl, by decide⟩)))
      clear H
      have H := H1
      have HNEH := Lib.hid HNE2
      clear H1 HNE HNE2
      obtain ⟨kind, frm, mlo, mhi, mheld, mhops, mgood, mref, slo, shi, pulse, mst, msn, Am, nm, cm, age⟩ := y
      have HC : Hid (∀ j u, [.int .i64 kind, .int .i64 frm, .int .i64 mlo, .int .i64 mhi, .int .i64 mheld, .int .i64 mhops, .bool mgood, Value.bool mref, .int .i64 slo, .int .i64 shi, .int .i64 pulse, .int .i64 mst, .int .i64 msn, .slice Am nm cm, .int .i64 age][j]? = some u → wr.cell? ((ad.add (k * 15)).add j) = some u) := Lib.hid hx
      dsimp only at HT
      clear hx hye HO HTO
      obtain ⟨⟨r1, r2⟩, hwy⟩ : ∃ r, wayP p slo shi age = r := ⟨_, rfl⟩
      have HWY := Lib.hid hwy
      have KWay : Hid (∀ W, Calls Tryz.prog 37 #[.agg #[.int .i64 p.N, .int .i64 p.F, .int .i64 p.D, .int .i64 p.Be, .int .i64 p.Rho, .int .i64 p.De, .int .i64 p.Ji, .int .i64 p.Eps, .int .i64 p.Mu, .int .i64 p.Ho, .int .i64 p.Pu, .int .i64 p.Se], .agg #[.int .i64 slo, .int .i64 shi], .int .i64 age] W fun e w' => e = .returned (.agg #[.int .i64 r1, .int .i64 r2]) ∧ Below W.heap.size W w') := Lib.hid (fun W => by have := RWay_calls p slo shi age W; rw [hwy] at this; exact this)
      clear hwy
      have HCO := Lib.hid (And.intro hco (And.intro hon (And.intro hkl hm16)))
      have HMB := Lib.hid (show (on + 1) * 16 ≤ 140737488355328 ∧ on + 1 ≤ maxLen by unfold maxLen; omega)
      clear hco hon hkl hm16
      cases mref
      all_goals
        go_wp2_with (first
          | ((with_reducible refine gate_dst (N := 44) rfl ?_); refine load_cells rfl rfl (ad := ad.add (k * 15)) (cs := [.int .i64 kind, .int .i64 frm, .int .i64 mlo, .int .i64 mhi, .int .i64 mheld, .int .i64 mhops, .bool mgood, .bool _, .int .i64 slo, .int .i64 shi, .int .i64 pulse, .int .i64 mst, .int .i64 msn, .slice Am nm cm, .int .i64 age]) ?hx Tryz.underlying49 rfl (by kernel_rfl) HC.out ?_; (case hx => first | rfl | (go_simp; done) | (go_simp; rfl)))
          | ((with_reducible refine gate_dst (N := 47) rfl ?_); refine fr_get H rfl rfl rfl (by repeat (first | exact At.head | apply At.tail)) Tryz.underlying4 rfl (by simp only [List.getElem?_toArray, List.getElem?_cons_succ, List.getElem?_cons_zero]; rfl) ?_; simp only [Act.put, lsA, lsZ, lsS])
          | (go_at_call 37; (with_reducible refine (KWay.out _).mono ?_); rintro e w' ⟨rfl, hb⟩; have H1 := H.call hb; clear hb; replace H := H1; clear H1)
          | (at_builtin; refine wpList_append_own_at _ rfl _ _ 78 rfl w.heap.size 25 i1 _ 2 16 Tryz.underlying78 hi1 hy0 hy1 hy2 rfl (by decide) (.slice Ao on co) on (flS (seenL p ⟨ticks, heard, ref, reading, given, ttab⟩ ++ waysOf p (ul.take k))) rfl H.now.2.1 ⟨x56, 0, none⟩ 1 1 [.int .i64 r1, .int .i64 r2] rfl rfl ?hn ?h1 HMB.out.2 HMB.out.1 H.chg.size ?_; (case hn => exact new_cells (H.of At.head)); (case h1 => exact flS_one r1 r2); intro v2 w2 hown hgrow hnil hat)
          | ((with_reducible refine gate_dst (N := 44) rfl ?_); refine fr_sub H (n := 15) rfl rfl rfl (by repeat (first | exact At.head | apply At.tail)) Tryz.underlying49 rfl (by kernel_rfl) (by simp only [List.toList_toArray, List.drop_succ_cons, List.drop_zero, List.take_succ_cons, List.take_zero]; rfl) (by rfl) ?_)
          | ((with_reducible refine gate_dst (N := 14) rfl ?_); refine fr_new H (N := 14) rfl rfl (cs := #[.int .i64 0, .int .i64 0, .int .i64 0, .int .i64 0, .int .i64 0, .int .i64 0, .bool false, .bool false, .int .i64 0, .int .i64 0, .int .i64 0, .int .i64 0, .int .i64 0, .slice none 0 0, .int .i64 0]) (t := 49) ?hr ?_; (case hr => first | (go_simp; done) | (go_simp; rfl)); intro g14 w14 H1; replace H := H1; clear H1)
          | ((with_reducible refine gate_store (t := 49) (p := 14) rfl ?_); refine fr_put H rfl rfl rfl rfl rfl (by repeat (first | exact At.head | apply At.tail)) (by rfl) (by kernel_rfl) (by simp [Value.oneCell']) ?_; intro w14_ H1; replace H := H1; clear H1)
          | ((with_reducible refine gate_dst (N := 47) rfl ?_); refine fr_get H rfl rfl rfl (by repeat (first | exact At.head | apply At.tail)) Tryz.underlying4 rfl (by simp only [List.getElem?_toArray, List.getElem?_cons_succ, List.getElem?_cons_zero]; rfl) ?_)
          | ((with_reducible refine gate_dst (N := 49) rfl ?_); refine fr_sub H (n := 12) rfl rfl rfl (by repeat (first | exact At.head | apply At.tail)) Tryz.underlying23 rfl (by kernel_rfl) (by simp only [List.toList_toArray, List.drop_succ_cons, List.drop_zero, List.take_succ_cons, List.take_zero]; rfl) (by rfl) ?_)
          | ((with_reducible refine gate_dst (N := 52) rfl ?_); refine fr_sub H (n := 2) rfl rfl rfl (by repeat (first | exact At.head | apply At.tail)) Tryz.underlying25 rfl (by kernel_rfl) (by simp only [List.toList_toArray, List.drop_succ_cons, List.drop_zero, List.take_succ_cons, List.take_zero]; rfl) (by rfl) ?_)
          | ((with_reducible refine gate_dst (N := 54) rfl ?_); refine fr_get H rfl rfl rfl (by repeat (first | exact At.head | apply At.tail)) Tryz.underlying3 rfl (by simp only [List.getElem?_toArray, List.getElem?_cons_succ, List.getElem?_cons_zero]; rfl) ?_)
          | ((with_reducible refine gate_dst (N := 56) rfl ?_); refine fr_rowv H (N := 56) rfl rfl (fun K hK => by go_simp; exact hK.out) ?_; intro x56 w56 H1; replace H := H1; clear H1)
          | fail)
      · have e1 : waysOf p (ul.take (k + 1)) = waysOf p (ul.take k) := by rw [HT.out]; simp
        refine ⟨⟨k + 1, Ao, on, co, by omega, rfl, rfl, HCO.out.1, by have := HCO.out.2.1; omega, Lib.hid (by rw [e1]; exact HLEN.out), Lib.hid (by rw [e1]; exact H.now.2.1), H6, Lib.hid H.now.2.2, (H.drop).imp (fun _ h => h.1)⟩, by simp [intOf]; omega⟩
      · have e1 : seenL p ⟨ticks, heard, ref, reading, given, ttab⟩ ++ waysOf p (ul.take (k + 1)) = (seenL p ⟨ticks, heard, ref, reading, given, ttab⟩ ++ waysOf p (ul.take k)) ++ [⟨r1, r2⟩] := by
          rw [HT.out, if_pos (by trivial), List.append_assoc]
          unfold wayOf
          dsimp only
          rw [HWY.out]
        have hlt6 := Go.Proofs.YtbmfgcekglgliaaGreatEm.obj_lt (H.of (At.tail (At.tail At.head)))
        have HTO2 := own_grown H.now.2.2 hgrow (own_apart H.now.2.2 H.now.2.1 (by decide))
        have HA := Fr.appended2 (H.drop.drop) (fun k h => h) HR0.out H.now.2.1 HNEH.out hgrow
        rcases hown.2 with ⟨_, h3⟩ | ⟨g8', cap, cur, rfl, h3, h4, h5, h6, h7, h8⟩
        · omega
        · refine ⟨⟨k + 1, some ⟨g8', 0, none⟩, on + 1, cap, by omega, rfl, rfl, h5, by have := HCO.out.2.1; omega, Lib.hid (by rw [e1, List.length_append, HLEN.out]; rfl), Lib.hid (by rw [e1, flS_snoc]; exact hown), Lib.hid (fun ad2 e2 => ?_), Lib.hid HTO2, HA⟩, by simp [intOf]; omega⟩
          cases e2
          rcases hat with q | q
          · have q' : some g8' = (Value.slice Ao on co).ownBlock := q
            cases Ao with
            | none => cases q'
            | some a8 =>
              have q2 : g8' = a8.block := by injection q'
              show g10 ≠ g8'
              rw [q2]
              exact H6.out a8 rfl
          · injection q with q
            have q' : g8' = _ := q
            intro e6
            have e6' : g10 = g8' := e6
            rw [e6', q'] at hlt6
            exact Nat.lt_irrefl _ hlt6
  · obtain rfl : k = m := by omega
    have HUA : Hid (seenL p ⟨ticks, heard, ref, reading, given, ttab⟩ ++ waysOf p (ul.take k) = spansP p me ⟨ticks, heard, ref, reading, given, ttab⟩) := Lib.hid (by
      unfold spansP
      rw [HUM.out.2.1, List.take_of_length_le (by rw [HUM.out.1]; exact Nat.le_refl _)])
    have hk16 := HUM.out.2.2
    rw [HUA.out] at HLEN HO
    have HNE : ∀ x, x ∈ ([(g9, .cells #[.int .i64 0, .int .i64 0, .int .i64 0, .int .i64 0, .int .i64 0, .int .i64 0, .bool false, .bool false, .int .i64 0, .int .i64 0, .int .i64 0, .int .i64 0, .int .i64 0, .slice none 0 0] 47 (0, 0)), (g8, .cells #[.int .i64 0, .int .i64 0, .int .i64 0, .bool false, .int .i64 0, .int .i64 0, .bool false, .slice none 0 0, .int .i64 0, .int .i64 0, .int .i64 0] 30 (0, 0)), (g7, .cells #[.int .i64 ticks, .slice Ah nh ch, .bool ref, .int .i64 reading, .bool given, .slice Ax nt ct] 44 (0, 0)), (g6, .cells #[.int .i64 lo, .int .i64 hi, .int .i64 time, .bool set, .int .i64 held, .int .i64 hops, .bool good, .slice A n c, .int .i64 st, .int .i64 sn, .int .i64 life] 30 (0, 0)), (g4, .cells #[.int .i64 p.N, .int .i64 p.F, .int .i64 p.D, .int .i64 p.Be, .int .i64 p.Rho, .int .i64 p.De, .int .i64 p.Ji, .int .i64 p.Eps, .int .i64 p.Mu, .int .i64 p.Ho, .int .i64 p.Pu, .int .i64 p.Se] 23 (0, 0))] : List (Nat × Obj)) → ∀ ad, Ao = some ad → x.1 ≠ ad.block := by
      intro x hx
      simp only [List.mem_cons, List.not_mem_nil, or_false] at hx
      rcases hx with rfl | rfl | rfl | rfl | rfl
      all_goals exact own_ne HO.out (H.of (by repeat (first | exact At.head | apply At.tail))) (by decide)
    have HNE2 : ∀ x, x ∈ ([(g10, .cells #[.int .i64 q1, .int .i64 q2] 25 (0, 0)), (g9, .cells #[.int .i64 0, .int .i64 0, .int .i64 0, .int .i64 0, .int .i64 0, .int .i64 0, .bool false, .bool false, .int .i64 0, .int .i64 0, .int .i64 0, .int .i64 0, .int .i64 0, .slice none 0 0] 47 (0, 0)), (g8, .cells #[.int .i64 0, .int .i64 0, .int .i64 0, .bool false, .int .i64 0, .int .i64 0, .bool false, .slice none 0 0, .int .i64 0, .int .i64 0, .int .i64 0] 30 (0, 0)), (g7, .cells #[.int .i64 ticks, .slice Ah nh ch, .bool ref, .int .i64 reading, .bool given, .slice Ax nt ct] 44 (0, 0)), (g6, .cells #[.int .i64 lo, .int .i64 hi, .int .i64 time, .bool set, .int .i64 held, .int .i64 hops, .bool good, .slice A n c, .int .i64 st, .int .i64 sn, .int .i64 life] 30 (0, 0)), (g4, .cells #[.int .i64 p.N, .int .i64 p.F, .int .i64 p.D, .int .i64 p.Be, .int .i64 p.Rho, .int .i64 p.De, .int .i64 p.Ji, .int .i64 p.Eps, .int .i64 p.Mu, .int .i64 p.Ho, .int .i64 p.Pu, .int .i64 p.Se] 23 (0, 0))] : List (Nat × Obj)) → ∀ ad, Ao = some ad → x.1 ≠ ad.block := by
      intro x hx
      rcases List.mem_cons.1 hx with rfl | hx
      · exact H6.out
      · exact HNE x hx
    have H1 := H.and (Tr_own3 H HO.out HNE2)
    clear H HNE HNE2 HO HTO
    have H := H1
    clear H1
    obtain ⟨⟨f1, f2, f3⟩, hfu⟩ : ∃ f, fuse p.F (spansP p me ⟨ticks, heard, ref, reading, given, ttab⟩) = f := ⟨_, rfl⟩
    have HFU := Lib.hid hfu
    have hl17 : (spansP p me ⟨ticks, heard, ref, reading, given, ttab⟩).length ≤ 256 := by rw [HLEN.out]; omega
    have KFuse : Hid (∀ W, W.ownsRow w.heap.size 25 2 (.slice Ao on co) on (flS (spansP p me ⟨ticks, heard, ref, reading, given, ttab⟩)) → Calls Tryz.prog 38 #[.int .i64 p.F, .slice Ao on co] W fun e w' => e = .returned (.tuple #[.agg #[.int .i64 f1, .int .i64 f2], .bool f3]) ∧ Below W.heap.size W w') := Lib.hid (fun W h => by
      have := RFuse_calls p.F Ao co w.heap.size (spansP p me ⟨ticks, heard, ref, reading, given, ttab⟩) W (by rw [HLEN.out]; exact h) hl17
      rw [HLEN.out, hfu] at this
      exact this)
    clear hfu hl17 hk16 hon
    go_upto_if 68 with (first
      | (go_at_call 38; (with_reducible refine (KFuse.out _ H.now.2).mono ?_); rintro e w' ⟨rfl, hb⟩; have H1 := H.call hb; clear hb; replace H := H1; clear H1)
      | ((with_reducible refine gate_dst (N := 59) rfl ?_); refine fr_sub H (n := 11) rfl rfl rfl (by repeat (first | exact At.head | apply At.tail)) Tryz.underlying30 rfl (by kernel_rfl) (by simp only [List.toList_toArray, List.drop_succ_cons, List.drop_zero, List.take_succ_cons, List.take_zero]; rfl) (by rfl) ?_)
      | ((with_reducible refine gate_dst (N := 15) rfl ?_); refine fr_new H (N := 15) rfl rfl (cs := #[.int .i64 0, .int .i64 0, .int .i64 0, .bool false, .int .i64 0, .int .i64 0, .bool false, .slice none 0 0, .int .i64 0, .int .i64 0, .int .i64 0]) (t := 30) ?hr ?_; (case hr => first | (go_simp; done) | (go_simp; rfl)); intro g15 w15 H1; replace H := H1; clear H1)
      | ((with_reducible refine gate_store (t := 30) (p := 15) rfl ?_); refine fr_put H rfl rfl rfl rfl rfl (by repeat (first | exact At.head | apply At.tail)) (by rfl) (by kernel_rfl) (by simp [Value.oneCell']) ?_; intro w15_ H1; replace H := H1; clear H1)
      | ((with_reducible refine gate_store (t := 3) (p := 60) rfl ?_); refine fr_set H (u := .int .i64 _) rfl rfl rfl rfl rfl (by repeat (first | exact At.head | apply At.tail)) (Nat.le_of_ble_eq_true rfl) (by simp only [Value.cells, List.take_succ_cons, List.take_zero, List.drop_succ_cons, List.drop_zero, List.cons_append, List.nil_append, List.size_toArray, List.length_cons, List.length_nil, Nat.reduceAdd, List.append_nil, List.drop_nil, List.take_nil, List.toList_toArray]; rfl) (by kernel_rfl) (by simp [Value.cells, Value.oneCell']) ?_; intro w60_ H1; replace H := H1; clear H1)
      | ((with_reducible refine gate_dst (N := 63) rfl ?_); refine fr_get H rfl rfl rfl (by repeat (first | exact At.head | apply At.tail)) Tryz.underlying3 rfl (by simp only [List.getElem?_toArray, List.getElem?_cons_succ, List.getElem?_cons_zero]; rfl) ?_)
      | ((with_reducible refine gate_dst (N := 16) rfl ?_); refine fr_new H (N := 16) rfl rfl (cs := #[.int .i64 0, .int .i64 0]) (t := 25) ?hr ?_; (case hr => first | (go_simp; done) | (go_simp; rfl)); intro g16 w16 H1; replace H := H1; clear H1)
      | ((with_reducible refine gate_store (t := 25) (p := 16) rfl ?_); refine fr_put H rfl rfl rfl rfl rfl (by repeat (first | exact At.head | apply At.tail)) (by rfl) (by kernel_rfl) (by simp [Value.oneCell']) ?_; intro w16_ H1; replace H := H1; clear H1)
      | fail)
    obtain ⟨nlo, hnlo⟩ : ∃ x, (if f3 = true then f1 else sadd [lo, ssub ticks p.Rho]) = x := ⟨_, rfl⟩
    obtain ⟨nhi, hnhi⟩ : ∃ x, (if f3 = true then f2 else sadd [hi, sadd [ticks, p.Rho]]) = x := ⟨_, rfl⟩
    obtain ⟨nhd, hnhd⟩ : ∃ x, (if f3 = true then 0 else moreP held) = x := ⟨_, rfl⟩
    obtain ⟨ng, hng⟩ : ∃ x, (if f3 = true then true else good) = x := ⟨_, rfl⟩
    have HNX := Lib.hid (And.intro hnlo (And.intro hnhi (And.intro hnhd hng)))
    clear hnlo hnhi hnhd hng
    go_cut [17] (fun v17 wc => Fr (fun _ => False) (fun _ => False) w wc [(g16, .cells #[.int .i64 f1, .int .i64 f2] 25 (0, 0)), (g15, .cells #[.int .i64 nlo, .int .i64 nhi, .int .i64 time, .bool set, .int .i64 nhd, .int .i64 0, .bool ng, .slice A n c, .int .i64 st, .int .i64 sn, .int .i64 life] 30 (0, 0)), (g10, .cells #[.int .i64 q1, .int .i64 q2] 25 (0, 0)), (g9, .cells #[.int .i64 0, .int .i64 0, .int .i64 0, .int .i64 0, .int .i64 0, .int .i64 0, .bool false, .bool false, .int .i64 0, .int .i64 0, .int .i64 0, .int .i64 0, .int .i64 0, .slice none 0 0] 47 (0, 0)), (g8, .cells #[.int .i64 0, .int .i64 0, .int .i64 0, .bool false, .int .i64 0, .int .i64 0, .bool false, .slice none 0 0, .int .i64 0, .int .i64 0, .int .i64 0] 30 (0, 0)), (g7, .cells #[.int .i64 ticks, .slice Ah nh ch, .bool ref, .int .i64 reading, .bool given, .slice Ax nt ct] 44 (0, 0)), (g6, .cells #[.int .i64 lo, .int .i64 hi, .int .i64 time, .bool set, .int .i64 held, .int .i64 hops, .bool good, .slice A n c, .int .i64 st, .int .i64 sn, .int .i64 life] 30 (0, 0)), (g4, .cells #[.int .i64 p.N, .int .i64 p.F, .int .i64 p.D, .int .i64 p.Be, .int .i64 p.Rho, .int .i64 p.De, .int .i64 p.Ji, .int .i64 p.Eps, .int .i64 p.Mu, .int .i64 p.Ho, .int .i64 p.Pu, .int .i64 p.Se] 23 (0, 0))] (pR Ah heard Ax ttab A tab))
    case first =>
      cases f3
      · obtain ⟨e1, e2, e3, e4⟩ := HNX.out
        have e1' : sadd [lo, ssub ticks p.Rho] = nlo := by simpa using e1
        have e2' : sadd [hi, sadd [ticks, p.Rho]] = nhi := by simpa using e2
        have e3' : moreP held = nhd := by simpa using e3
        have e4' : good = ng := by simpa using e4
        clear e1 e2 e3 e4
        subst e1' e2' e3' e4'
        go_wp2_with (first
          | (go_at_call 39; (with_reducible refine (RHold_calls p _ _ _ _).mono ?_); rintro e w' ⟨rfl, hb⟩; have H1 := H.call hb; clear hb; replace H := H1; clear H1)
          | (go_at_call 40; (with_reducible refine (RMore_calls _ _).mono ?_); rintro e w' ⟨rfl, hb⟩; have H1 := H.call hb; clear hb; replace H := H1; clear H1)
          | ((with_reducible refine gate_dst (N := 73) rfl ?_); refine fr_sub H (n := 12) rfl rfl rfl (by repeat (first | exact At.head | apply At.tail)) Tryz.underlying23 rfl (by kernel_rfl) (by simp only [List.toList_toArray, List.drop_succ_cons, List.drop_zero, List.take_succ_cons, List.take_zero]; rfl) (by rfl) ?_)
          | ((with_reducible refine gate_dst (N := 75) rfl ?_); refine fr_sub H (n := 2) rfl rfl rfl (by repeat (first | exact At.head | apply At.tail)) Tryz.underlying25 rfl (by kernel_rfl) (by simp only [List.toList_toArray, List.drop_succ_cons, List.drop_zero, List.take_succ_cons, List.take_zero]; rfl) (by rfl) ?_)
          | ((with_reducible refine gate_dst (N := 77) rfl ?_); refine fr_get H rfl rfl rfl (by repeat (first | exact At.head | apply At.tail)) Tryz.underlying3 rfl (by simp only [List.getElem?_toArray, List.getElem?_cons_succ, List.getElem?_cons_zero]; rfl) ?_)
          | ((with_reducible refine gate_store (t := 25) (p := 79) rfl ?_); refine fr_set H (u := .agg (List.toArray _)) rfl rfl rfl rfl rfl (by repeat (first | exact At.head | apply At.tail)) (Nat.le_of_ble_eq_true rfl) (by simp only [Value.cells, List.take_succ_cons, List.take_zero, List.drop_succ_cons, List.drop_zero, List.cons_append, List.nil_append, List.size_toArray, List.length_cons, List.length_nil, Nat.reduceAdd, List.append_nil, List.drop_nil, List.take_nil, List.toList_toArray]; rfl) (by kernel_rfl) (by simp [Value.cells, Value.oneCell']) ?_; intro w79_ H1; replace H := H1; clear H1)
          | ((with_reducible refine gate_dst (N := 81) rfl ?_); refine fr_get H rfl rfl rfl (by repeat (first | exact At.head | apply At.tail)) Tryz.underlying3 rfl (by simp only [List.getElem?_toArray, List.getElem?_cons_succ, List.getElem?_cons_zero]; rfl) ?_)
          | ((with_reducible refine gate_store (t := 3) (p := 83) rfl ?_); refine fr_set H (u := .int .i64 _) rfl rfl rfl rfl rfl (by repeat (first | exact At.head | apply At.tail)) (Nat.le_of_ble_eq_true rfl) (by simp only [Value.cells, List.take_succ_cons, List.take_zero, List.drop_succ_cons, List.drop_zero, List.cons_append, List.nil_append, List.size_toArray, List.length_cons, List.length_nil, Nat.reduceAdd, List.append_nil, List.drop_nil, List.take_nil, List.toList_toArray]; rfl) (by kernel_rfl) (by simp [Value.cells, Value.oneCell']) ?_; intro w83_ H1; replace H := H1; clear H1)
          | fail)
        go_meet
        case rel => exact H.imp (fun _ h => h.1)
      · obtain ⟨e1, e2, e3, e4⟩ := HNX.out
        have e1' : f1 = nlo := by simpa using e1
        have e2' : f2 = nhi := by simpa using e2
        have e3' : nhd = 0 := by simpa using e3.symm
        have e4' : ng = true := by simpa using e4.symm
        clear e1 e2 e3 e4
        subst e1' e2' e3' e4'
        go_wp2_with (first
          | ((with_reducible refine gate_dst (N := 69) rfl ?_); refine fr_sub H (n := 2) rfl rfl rfl (by repeat (first | exact At.head | apply At.tail)) Tryz.underlying25 rfl (by kernel_rfl) (by simp only [List.toList_toArray, List.drop_succ_cons, List.drop_zero, List.take_succ_cons, List.take_zero]; rfl) (by rfl) ?_)
          | ((with_reducible refine gate_store (t := 25) (p := 70) rfl ?_); refine fr_set H (u := .agg (List.toArray _)) rfl rfl rfl rfl rfl (by repeat (first | exact At.head | apply At.tail)) (Nat.le_of_ble_eq_true rfl) (by simp only [Value.cells, List.take_succ_cons, List.take_zero, List.drop_succ_cons, List.drop_zero, List.cons_append, List.nil_append, List.size_toArray, List.length_cons, List.length_nil, Nat.reduceAdd, List.append_nil, List.drop_nil, List.take_nil, List.toList_toArray]; rfl) (by kernel_rfl) (by simp [Value.cells, Value.oneCell']) ?_; intro w70_ H1; replace H := H1; clear H1)
          | ((with_reducible refine gate_store (t := 3) (p := 71) rfl ?_); refine fr_set H (u := .int .i64 _) rfl rfl rfl rfl rfl (by repeat (first | exact At.head | apply At.tail)) (Nat.le_of_ble_eq_true rfl) (by simp only [Value.cells, List.take_succ_cons, List.take_zero, List.drop_succ_cons, List.drop_zero, List.cons_append, List.nil_append, List.size_toArray, List.length_cons, List.length_nil, Nat.reduceAdd, List.append_nil, List.drop_nil, List.take_nil, List.toList_toArray]; rfl) (by kernel_rfl) (by simp [Value.cells, Value.oneCell']) ?_; intro w71_ H1; replace H := H1; clear H1)
          | ((with_reducible refine gate_store (t := 4) (p := 72) rfl ?_); refine fr_set H (u := .bool _) rfl rfl rfl rfl rfl (by repeat (first | exact At.head | apply At.tail)) (Nat.le_of_ble_eq_true rfl) (by simp only [Value.cells, List.take_succ_cons, List.take_zero, List.drop_succ_cons, List.drop_zero, List.cons_append, List.nil_append, List.size_toArray, List.length_cons, List.length_nil, Nat.reduceAdd, List.append_nil, List.drop_nil, List.take_nil, List.toList_toArray]; rfl) (by kernel_rfl) (by simp [Value.cells, Value.oneCell']) ?_; intro w72_ H1; replace H := H1; clear H1)
          | fail)
        go_meet
        case rel => exact H.imp (fun _ h => h.1)
    case rest =>
    have H1 := hcut
    clear H hcut
    have H := H1
    clear H1
    obtain ⟨tb3, htb3⟩ : ∃ l, (if given = true then ttab else tab) = l := ⟨_, rfl⟩
    have HTB := Lib.hid htb3
    clear htb3
    go_upto_if 85 with (first
      | ((with_reducible refine gate_dst (N := 85) rfl ?_); refine fr_get H rfl rfl rfl (by repeat (first | exact At.head | apply At.tail)) Tryz.underlying4 rfl (by simp only [List.getElem?_toArray, List.getElem?_cons_succ, List.getElem?_cons_zero]; rfl) ?_; simp only [Act.put, lsA, lsZ, lsS])
      | ((with_reducible refine gate_dst (N := 85) rfl ?_); refine fr_get H rfl rfl rfl (by repeat (first | exact At.head | apply At.tail)) Tryz.underlying4 rfl (by simp only [List.getElem?_toArray, List.getElem?_cons_succ, List.getElem?_cons_zero]; rfl) ?_)
      | fail)
    go_cut [17] (fun v17 wc => ∃ (A3 : Option Addr) (n3 c3 : Nat), Hid (tb3.length = n3 ∧ tb3.length ≤ 4096) ∧ Hid (∀ W, pR Ah heard Ax ttab A tab W → Kd.C k58 W A3 n3 tb3) ∧ Fr (fun _ => False) (fun _ => False) w wc [(g16, .cells #[.int .i64 f1, .int .i64 f2] 25 (0, 0)), (g15, .cells #[.int .i64 nlo, .int .i64 nhi, .int .i64 time, .bool set, .int .i64 nhd, .int .i64 0, .bool ng, .slice A3 n3 c3, .int .i64 st, .int .i64 sn, .int .i64 life] 30 (0, 0)), (g10, .cells #[.int .i64 q1, .int .i64 q2] 25 (0, 0)), (g9, .cells #[.int .i64 0, .int .i64 0, .int .i64 0, .int .i64 0, .int .i64 0, .int .i64 0, .bool false, .bool false, .int .i64 0, .int .i64 0, .int .i64 0, .int .i64 0, .int .i64 0, .slice none 0 0] 47 (0, 0)), (g8, .cells #[.int .i64 0, .int .i64 0, .int .i64 0, .bool false, .int .i64 0, .int .i64 0, .bool false, .slice none 0 0, .int .i64 0, .int .i64 0, .int .i64 0] 30 (0, 0)), (g7, .cells #[.int .i64 ticks, .slice Ah nh ch, .bool ref, .int .i64 reading, .bool given, .slice Ax nt ct] 44 (0, 0)), (g6, .cells #[.int .i64 lo, .int .i64 hi, .int .i64 time, .bool set, .int .i64 held, .int .i64 hops, .bool good, .slice A n c, .int .i64 st, .int .i64 sn, .int .i64 life] 30 (0, 0)), (g4, .cells #[.int .i64 p.N, .int .i64 p.F, .int .i64 p.D, .int .i64 p.Be, .int .i64 p.Rho, .int .i64 p.De, .int .i64 p.Ji, .int .i64 p.Eps, .int .i64 p.Mu, .int .i64 p.Ho, .int .i64 p.Pu, .int .i64 p.Se] 23 (0, 0))] (pR Ah heard Ax ttab A tab))
    case first =>
      cases given
      · obtain rfl : tab = tb3 := by have := HTB.out; simpa using this
        go_wp2
        go_meet
        case rel => exact ⟨A, n, c, Lib.hid ⟨HN.out.1, HL.out.2.2⟩, Lib.hid (fun W h => by have := h.2.2; rw [HN.out.1] at this; exact this), H⟩
      · obtain rfl : ttab = tb3 := by have := HTB.out; simpa using this
        go_wp2_with (first
          | ((with_reducible refine gate_dst (N := 87) rfl ?_); refine fr_get H rfl rfl rfl (by repeat (first | exact At.head | apply At.tail)) Tryz.underlying26 rfl (by simp only [List.getElem?_toArray, List.getElem?_cons_succ, List.getElem?_cons_zero]; rfl) ?_)
          | ((with_reducible refine gate_store (t := 26) (p := 88) rfl ?_); refine fr_set H (u := .slice _ _ _) rfl rfl rfl rfl rfl (by repeat (first | exact At.head | apply At.tail)) (Nat.le_of_ble_eq_true rfl) (by simp only [Value.cells, List.take_succ_cons, List.take_zero, List.drop_succ_cons, List.drop_zero, List.cons_append, List.nil_append, List.size_toArray, List.length_cons, List.length_nil, Nat.reduceAdd, List.append_nil, List.drop_nil, List.take_nil, List.toList_toArray]; rfl) (by kernel_rfl) (by simp [Value.cells, Value.oneCell']) ?_; intro w88_ H1; replace H := H1; clear H1)
          | fail)
        go_meet
        case rel => exact ⟨Ax, nt, ct, Lib.hid ⟨HN.out.2.2, HL.out.2.1⟩, Lib.hid (fun W h => by have := h.2.1; rw [HN.out.2.2] at this; exact this), H⟩
    case rest =>
    obtain ⟨A3, n3, c3, HN3, HP3, H1⟩ := hcut
    clear H
    have H := H1
    clear H1
    have HST : Hid (stepS p ⟨lo, hi, time, set, held, hops, good, tab, st, sn, life⟩ ticks ⟨nlo, nhi, time, set, nhd, 0, ng, tb3, st, sn, life⟩ = z) := Lib.hid (by
      rw [← HZ.out]
      unfold beatS0
      congr 1
      unfold nextS
      dsimp only
      obtain ⟨e1, e2, e3, e4⟩ := HNX.out
      rw [HFU.out]
      dsimp only
      rw [e1, e2, e3, e4, HTB.out])
    have KStep : Hid (∀ W, Kd.C k58 W A3 n3 tb3 → Calls Tryz.prog 42 #[.agg #[.int .i64 p.N, .int .i64 p.F, .int .i64 p.D, .int .i64 p.Be, .int .i64 p.Rho, .int .i64 p.De, .int .i64 p.Ji, .int .i64 p.Eps, .int .i64 p.Mu, .int .i64 p.Ho, .int .i64 p.Pu, .int .i64 p.Se], .agg #[.int .i64 lo, .int .i64 hi, .int .i64 time, .bool set, .int .i64 held, .int .i64 hops, .bool good, .slice A n c, .int .i64 st, .int .i64 sn, .int .i64 life], .int .i64 ticks, .agg #[.int .i64 nlo, .int .i64 nhi, .int .i64 time, .bool set, .int .i64 nhd, .int .i64 0, .bool ng, .slice A3 n3 c3, .int .i64 st, .int .i64 sn, .int .i64 life]] W fun e w' => ∃ A' c', e = .returned (.agg #[.int .i64 z.lo, .int .i64 z.hi, .int .i64 z.time, .bool z.set, .int .i64 z.held, .int .i64 z.hops, .bool z.good, .slice A' z.tab.length c', .int .i64 z.st, .int .i64 z.sn, .int .i64 z.life]) ∧ w'.ownsRow W.heap.size 58 2 (.slice A' z.tab.length c') z.tab.length (flL z.tab) ∧ Below W.heap.size W w') := Lib.hid (fun W h => by
      have := RStep_calls p ⟨lo, hi, time, set, held, hops, good, tab, st, sn, life⟩ A c ticks ⟨nlo, nhi, time, set, nhd, 0, ng, tb3, st, sn, life⟩ A3 c3 W (by dsimp only; rw [HN3.out.1]; exact h) HN3.out.2
      rw [HST.out] at this
      dsimp only at this
      rw [HN3.out.1, HN.out.1] at this
      exact this)
    have KSay : Hid (∀ W A1 c1, Kd.C k58 W A1 z.tab.length z.tab → Calls Tryz.prog 41 #[.agg #[.int .i64 p.N, .int .i64 p.F, .int .i64 p.D, .int .i64 p.Be, .int .i64 p.Rho, .int .i64 p.De, .int .i64 p.Ji, .int .i64 p.Eps, .int .i64 p.Mu, .int .i64 p.Ho, .int .i64 p.Pu, .int .i64 p.Se], .agg #[.int .i64 z.lo, .int .i64 z.hi, .int .i64 z.time, .bool z.set, .int .i64 z.held, .int .i64 z.hops, .bool z.good, .slice A1 z.tab.length c1, .int .i64 z.st, .int .i64 z.sn, .int .i64 z.life], .int .i64 1, .int .i64 me, .bool rb, .agg #[.int .i64 q1, .int .i64 q2]] W fun e w' => ∃ A' c', e = .returned (.tuple #[.agg #[.int .i64 z.lo, .int .i64 z.hi, .int .i64 z.time, .bool z.set, .int .i64 z.held, .int .i64 z.hops, .bool z.good, .slice A1 z.tab.length c1, .int .i64 y1, .int .i64 y2, .int .i64 z.life], .agg #[.int .i64 1, .int .i64 me, .int .i64 z.lo, .int .i64 z.hi, .int .i64 z.held, .int .i64 z.hops, .bool z.good, .bool rb, .int .i64 q1, .int .i64 q2, .int .i64 pz, .int .i64 y1, .int .i64 y2, .slice A' z.tab.length c']]) ∧ w'.ownsRow W.heap.size 58 2 (.slice A' z.tab.length c') z.tab.length (flL z.tab) ∧ Below W.heap.size W w') := Lib.hid (fun W A1 c1 h => by
      have hzl : z.tab.length ≤ 4096 := by
        rw [← HST.out]
        show (saneS p.D _).tab.length ≤ 4096
        refine Nat.le_trans (saneS_tab _ _) ?_
        exact HN3.out.2
      have := RSay_calls p z A1 c1 1 me rb q1 q2 W h hzl
      rw [HPZ.out, HY.out] at this
      exact this)
    go_upto_region 24 with fail
    refine ro_start (Frs _ _ _ _ _) [10, 13, 14] [0, 1, 2, 3, 4, 5, 7, 8, 9, 6, 10, 11, 12, 13, 14] 15 (by kernel_rfl) (by rfl) (by simp only [pickR, List.getElem?_cons_succ, List.getElem?_cons_zero]; rfl) (by rfl) (H.drewN 1) (fun HS => ?_)
    have H1 : Fr _ _ _ _ _ _ := HS
    clear HS H
    have H := H1
    clear H1
    repeat (first
      | ((with_reducible refine rz_call (f := 42) rfl ?_); refine ro_call 42 _ rfl (by kernel_rfl) (by kernel_rfl) (by rfl) Tryz.func42 (by kernel_rfl) rfl (by simp only [List.map_toArray, List.map_cons, List.map_nil]; rfl) ?_; (refine (KStep.out _ (HP3.out _ H.now)).mono ?_); rintro e w' ⟨A1, c1, rfl, ho, hb⟩; have HT := Tr_row H.avs H.chg.size ho; have H2 := H.call2 hb HT; have H1 := H.call hb; refine ⟨_, rfl, H1, fun _ => ?_⟩; clear hb ho HT H1 H; have H := H2; clear H2; (try simp only [Act.put, lsA, lsZ, lsS, Nat.reduceAdd]))
      | ((with_reducible refine rz_call (f := 41) rfl ?_); refine ro_callL 41 _ rfl (by kernel_rfl) (by kernel_rfl) (by rfl) Tryz.func41 (by kernel_rfl) rfl (by simp only [List.map_toArray, List.map_cons, List.map_nil]; rfl) ?_; (refine (KSay.out _ A1 c1 (own_C' H.now.2)).mono ?_); rintro e w' ⟨A2, c2, rfl, ho, hb⟩; have HT := Tr_row H.avs H.chg.size ho; have H1 := H.call2 hb HT; refine ⟨_, rfl, ?_⟩; clear hb ho HT H; have H := H1; clear H1; (try simp only [Act.put, lsA, lsZ, lsS, Nat.reduceAdd]))
      | ((with_reducible refine rz_load (ty := 23) rfl ?_); refine ro_sub H (m := 12) rfl (by kernel_rfl) (fun _ _ _ h => h) (by rfl) (by rfl) (by repeat (first | exact At.head | apply At.tail)) Tryz.underlying23 rfl (by kernel_rfl) (by simp only [List.toList_toArray, List.drop_succ_cons, List.drop_zero, List.take_succ_cons, List.take_zero]; rfl) (by rfl) ?_; (try simp only [Act.put, lsA, lsZ, lsS, Nat.reduceAdd]))
      | ((with_reducible refine rz_load (ty := 30) rfl ?_); refine ro_sub H (m := 11) rfl (by kernel_rfl) (fun _ _ _ h => h) (by rfl) (by rfl) (by repeat (first | exact At.head | apply At.tail)) Tryz.underlying30 rfl (by kernel_rfl) (by simp only [List.toList_toArray, List.drop_succ_cons, List.drop_zero, List.take_succ_cons, List.take_zero]; rfl) (by rfl) ?_; (try simp only [Act.put, lsA, lsZ, lsS, Nat.reduceAdd]))
      | ((with_reducible refine rz_load (ty := 3) rfl ?_); refine ro_get H rfl (by kernel_rfl) (fun _ _ _ h => h) (by rfl) (by rfl) (by repeat (first | exact At.head | apply At.tail)) Tryz.underlying3 rfl (by simp only [List.getElem?_toArray, List.getElem?_cons_succ, List.getElem?_cons_zero]; rfl) ?_; (try simp only [Act.put, lsA, lsZ, lsS, Nat.reduceAdd]))
      | ((with_reducible refine rz_load (ty := 25) rfl ?_); refine ro_sub H (m := 2) rfl (by kernel_rfl) (fun _ _ _ h => h) (by rfl) (by rfl) (by repeat (first | exact At.head | apply At.tail)) Tryz.underlying25 rfl (by kernel_rfl) (by simp only [List.toList_toArray, List.drop_succ_cons, List.drop_zero, List.take_succ_cons, List.take_zero]; rfl) (by rfl) ?_; (try simp only [Act.put, lsA, lsZ, lsS, Nat.reduceAdd]))
      | ((with_reducible refine rz_store (ty := 30) rfl ?_); refine ro_set H (u := .agg (List.toArray _)) rfl rfl (by kernel_rfl) (by kernel_rfl) (by rfl) (by rfl) (by rfl) (by repeat (first | exact At.head | apply At.tail)) (Nat.le_of_ble_eq_true rfl) (by simp only [Value.cells, List.take_succ_cons, List.take_zero, List.drop_succ_cons, List.drop_zero, List.cons_append, List.nil_append, List.size_toArray, List.length_cons, List.length_nil, Nat.reduceAdd, List.append_nil, List.drop_nil, List.take_nil, List.toList_toArray]; rfl) (by kernel_rfl) (by simp [Value.cells, Value.oneCell']) ?_; intro w1 H1; replace H := H1; clear H1; (try simp only [Act.put, lsA, lsZ, lsS, Nat.reduceAdd]))
      | ((with_reducible refine rz_store (ty := 47) rfl ?_); refine ro_set H (u := .agg (List.toArray _)) rfl rfl (by kernel_rfl) (by kernel_rfl) (by rfl) (by rfl) (by rfl) (by repeat (first | exact At.head | apply At.tail)) (Nat.le_of_ble_eq_true rfl) (by simp only [Value.cells, List.take_succ_cons, List.take_zero, List.drop_succ_cons, List.drop_zero, List.cons_append, List.nil_append, List.size_toArray, List.length_cons, List.length_nil, Nat.reduceAdd, List.append_nil, List.drop_nil, List.take_nil, List.toList_toArray]; rfl) (by kernel_rfl) (by simp [Value.cells, Value.oneCell']) ?_; intro w1 H1; replace H := H1; clear H1; (try simp only [Act.put, lsA, lsZ, lsS, Nat.reduceAdd]))
      | (refine ro_off (by kernel_rfl) (fun _ _ _ h => h) (by rfl) ?_; (try simp only [Act.put, lsA, lsZ, lsS, Nat.reduceAdd]))
      | (refine ro_pure (by kernel_rfl) (fun _ _ _ h => h) (by rfl) (fun W K hK => by go_simp; exact hK.out) ?_; (try simp only [Act.put, lsA, lsZ, lsS, Nat.reduceAdd])))
    refine ro_done (by kernel_rfl) ?_
    go_wp2
    refine bodyPost_ret (results_cc rfl _ _ g8 g9 30 47 _ _ (0, 0) (0, 0) _ _ rfl (H.of (by repeat (first | exact At.head | apply At.tail))) Tryz.underlying30 rfl (by kernel_rfl) rfl (H.of (by repeat (first | exact At.head | apply At.tail))) Tryz.underlying47 rfl (by kernel_rfl)) rfl ?_
    exact ⟨A1, c1, A2, c2, rfl, H.now.1.2, H.now.2, H.below⟩
end Go.Proofs.YtbmfgcekglgliaaGreat.G

namespace Go.Proofs.YtbmfgcekglgliaaGreat.G
open Go.RowKit Go.Proofs.YtbmfgcekglgliaaGreatW.PrintWords Go.Proofs.YtbmfgcekglgliaaGreatW.PrintLast Go.Proofs.YtbmfgcekglgliaaGreatW.PrintMore Go.Proofs.YtbmfgcekglgliaaGreatPl Go.Proofs.YtbmfgcekglgliaaGreatEm Go.Proofs.YtbmfgcekglgliaaGreatKr Go.Proofs.YtbmfgcekglgliaaGreatRz Go.Proofs.YtbmfgcekglgliaaGreat.X
open Go.Proofs.YtbmfgcekglgliaaGreat.So (srt least has srt_length)
set_option linter.unusedVariables false
set_option linter.unusedSimpArgs false
def hon (t v : Int) (s : Sp) : Prop := s.f0 ≤ t ∧ t ≤ s.f1 ∧ s.f1 - s.f0 ≤ v
end Go.Proofs.YtbmfgcekglgliaaGreat.G
