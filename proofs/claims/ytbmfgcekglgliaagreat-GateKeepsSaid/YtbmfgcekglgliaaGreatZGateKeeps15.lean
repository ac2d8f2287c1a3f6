/- Texts Gz, Rq, Gz1, Yo, Rt, Yp, Rt2, in one file, without what is not needed here. -/
import Derived.Test.YtbmfgcekglgliaaGreatZGateKeeps14
namespace Go.Proofs.YtbmfgcekglgliaaGreat.G
open Go.RowKit Go.Proofs.YtbmfgcekglgliaaGreatW.PrintWords Go.Proofs.YtbmfgcekglgliaaGreatW.PrintLast Go.Proofs.YtbmfgcekglgliaaGreatW.PrintMore Go.Proofs.YtbmfgcekglgliaaGreatPl Go.Proofs.YtbmfgcekglgliaaGreatEm Go.Proofs.YtbmfgcekglgliaaGreatKr Go.Proofs.YtbmfgcekglgliaaGreatRz Go.Proofs.YtbmfgcekglgliaaGreat.X
open Go.Proofs.YtbmfgcekglgliaaGreat.So (srt least has srt_length)
set_option linter.unusedVariables false
set_option linter.unusedSimpArgs false
theorem Fr.fresh {M A : Nat → Prop} {w W W1 : World} {bl : List (Nat × Obj)} {p : World → Prop} {g : Nat} {ob : Obj} (h : Fr M A w W bl p) (hg : W.heap.size ≤ g) (hb : W1.heap[g]? = some ob) (hB : Below W.heap.size W W1) :
    Fr M A w W1 ((g, ob) :: bl) p := by
  refine ⟨h.av, h.chg.trans (Chg.of_below hB), ?_, ?_, ?_⟩
  · intro x hx
    rcases List.mem_cons.1 hx with rfl | hx
    · exact ⟨hb, .inl (Nat.le_trans h.chg.size hg)⟩
    · obtain ⟨h1, h2⟩ := h.blk x hx
      exact ⟨(hB.block _ (Go.Proofs.YtbmfgcekglgliaaGreatEm.obj_lt h1)).trans h1, h2⟩
  · refine List.Pairwise.cons ?_ h.nd
    intro x hx e
    have := Go.Proofs.YtbmfgcekglgliaaGreatEm.obj_lt (h.blk x hx).1
    have e' : g = x.1 := e
    omega
  · refine fun W' k => h.tr W' (fun j ha hj => (k j (fun q => ?_) (by have := hB.size; omega)).trans (hB.block j hj))
    rcases q with q | ⟨x, hx, e⟩
    · exact ha (.inl q)
    · rcases List.mem_cons.1 hx with rfl | hx
      · have e' : g = j := e
        omega
      · exact ha (.inr ⟨x, hx, e⟩)
theorem Fr.trAt {M A : Nat → Prop} {w W : World} {bl bl' : List (Nat × Obj)} {p : World → Prop} {g : Nat} {o : Obj} (h : Fr M A w W bl p) (ha : At bl g o o bl') : Tr (fun k => k = g) W p := Tr.less h.tr (fun k _ e => .inr ⟨_, ha.mem, e.symm⟩)
theorem Fr.freshRow {M A : Nat → Prop} {w W W1 : World} {bl : List (Nat × Obj)} {p : World → Prop} {g : Nat} {ob : Obj} {e : TypeId} {sz n c : Nat} {Ao : Option Addr} {xs : List Value} (h : Fr M A w W bl p) (hg : W.heap.size ≤ g) (hb : W1.heap[g]? = some ob) (hB : Below W.heap.size W W1)
    (ho : W1.ownsRow W.heap.size e sz (.slice Ao n c) n xs) (hne : ∀ ad, Ao = some ad → ad.block ≠ g) : Fr M A w W1 ((g, ob) :: bl) (fun W => p W ∧ W.ownsRow w.heap.size e sz (.slice Ao n c) n xs) := by
  refine (Fr.fresh h hg hb hB).and (Tr_own ho h.chg.size (fun k ad hk ha => ?_))
  have h1 := (own_lo ho ad ha).1
  rcases hk with hk | ⟨x, hx, e1⟩
  · have := h.av k hk
    have := h.chg.size
    omega
  · rcases List.mem_cons.1 hx with rfl | hx
    · have e2 : g = k := e1
      subst e2
      exact fun e3 => hne ad ha e3.symm
    · have := Go.Proofs.YtbmfgcekglgliaaGreatEm.obj_lt (h.blk x hx).1
      rw [e1] at this
      omega
structure InC where
  x : Inp
  Ah : Option Addr
  ch : Nat
  Ax : Option Addr
  ct : Nat
def encI (y : InC) : List Value := [.int .i64 y.x.ticks, .slice y.Ah y.x.heard.length y.ch, .bool y.x.ref, .int .i64 y.x.reading, .bool y.x.given, .slice y.Ax y.x.tab.length y.ct]
def RowI (w : World) (A : Option Addr) (l : List InC) : Prop := ∀ k (hk : k < l.length), (∃ ad, A = some ad ∧ ∀ j u, (encI l[k])[j]? = some u → w.cell? ((ad.add (k * 6)).add j) = some u) ∧ RowH w l[k].Ah l[k].x.heard
theorem rowI_one {M A : Nat → Prop} {w W : World} {bl : List (Nat × Obj)} {p : World → Prop} {g : Nat} {y : InC} (H : Fr M A w W bl p) {t : TypeId} (hb : W.heap[g]? = some (.cells (encI y).toArray t (0, 0))) (hp : ∀ W, p W → RowH W y.Ah y.x.heard) : Tr (fun _ => False) W (fun W => RowI W (some ⟨g, 0, none⟩) [y]) := by
  intro W' hW k hk
  have hk0 : k = 0 := by simp at hk; exact hk
  subst hk0
  refine ⟨⟨_, rfl, ?_⟩, hp _ (H.tr W' (fun k hk hl => hW k (fun h => h) hl))⟩
  have e : W'.heap[g]? = some (.cells (encI y).toArray t (0, 0)) := (hW g (fun h => h) (Go.Proofs.YtbmfgcekglgliaaGreatEm.obj_lt hb)).trans hb
  have := new_cells e
  intro j u hu
  have h0 : ((⟨g, 0, none⟩ : Addr).add (0 * 6)) = ⟨g, 0, none⟩ := rfl
  rw [h0]
  exact this j u hu
def greatX (x : Inp) : Bool := decide (40 < x.heard.length) || decide (128 < x.tab.length) || x.heard.any (fun h => decide (128 < h.n))
def greatP (n : Nat) (l : List InC) : Bool := decide (128 < n) || decide (12 < l.length) || l.any (fun y => greatX y.x)
theorem nat_dec {a : Nat} {n : Nat} {b : Bool} (h : decide (a < n) = b) : decide ((a : Int) < (n : Int)) = b := by rw [← h, Bool.eq_iff_iff]; simp
set_option maxRecDepth 100000 in
set_option maxHeartbeats 16000000 in
theorem great_calls (lo hi time : Int) (set : Bool) (held hops : Int) (good : Bool) (A : Option Addr) (n c : Nat) (st sn life : Int) (Ai : Option Addr) (ci : Nat) (l : List InC) (w : World) (hr : Tr (fun _ => False) w (fun W => RowI W Ai l)) (hl : l.length ≤ 9223372036854775807) (hh : ∀ y ∈ l, y.x.heard.length ≤ 9223372036854775807) :
    Calls Tryz.prog 6 #[.agg #[.int .i64 lo, .int .i64 hi, .int .i64 time, .bool set, .int .i64 held, .int .i64 hops, .bool good, .slice A n c, .int .i64 st, .int .i64 sn, .int .i64 life], .slice Ai l.length ci] w fun e w' => e = .returned (.bool (greatP n l)) ∧ Below w.heap.size w w' := by
  have H := Fr.start0 (M := fun _ => False) (A := fun _ => False) (w := w) (p := fun W => RowI W Ai l) (fun _ h => h.elim) hr
  obtain ⟨b1, h1⟩ : ∃ b, decide (128 < n) = b := ⟨_, rfl⟩
  obtain ⟨b2, h2⟩ : ∃ b, decide (12 < l.length) = b := ⟨_, rfl⟩
  have HG : Hid (greatP n l = (b1 || b2 || l.any (fun y => greatX y.x))) := Lib.hid (by unfold greatP; rw [h1, h2])
  have g1 : decide ((128 : Int) < (n : Int)) = b1 := nat_dec h1
  have g2 : decide ((12 : Int) < (l.length : Int)) = b2 := nat_dec h2
  obtain ⟨m, hm⟩ : ∃ m, l.length = m := ⟨_, rfl⟩
  have HM := Lib.hid hm
  have HH := Lib.hid hh
  rw [hm] at g2 hl ⊢
  clear hr hm h1 h2 hh
  go_enter Tryz.func6, Tryz.ntmps6
  cases b1 with
  | true =>
    go_wp2_with (first
      | ((with_reducible refine gate_dst (N := 2) rfl ?_); refine fr_box H rfl rfl rfl ?_; intro g2 w2 H1; replace H := H1; clear H1)
      | ((with_reducible refine gate_dst (N := 10) rfl ?_); refine fr_get H rfl rfl rfl (by repeat (first | exact At.head | apply At.tail)) Tryz.underlying26 rfl (by simp only [List.getElem?_toArray, List.getElem?_cons_succ, List.getElem?_cons_zero]; rfl) ?_)
      | ((with_reducible refine gate_dst (N := 23) rfl ?_); refine fr_sub H (n := 6) rfl rfl rfl (by repeat (first | exact At.head | apply At.tail)) Tryz.underlying44 rfl (by kernel_rfl) (by simp only [List.toList_toArray, List.drop_succ_cons, List.drop_zero, List.take_succ_cons, List.take_zero]; rfl) (by rfl) ?_)
      | ((with_reducible refine gate_dst (N := 6) rfl ?_); refine fr_new H (N := 6) rfl rfl (cs := #[.int .i64 0, .slice none 0 0, .bool false, .int .i64 0, .bool false, .slice none 0 0]) (t := 44) ?hr ?_; (case hr => first | (go_simp; done) | (go_simp; rfl)); intro g6 w6 H1; replace H := H1; clear H1)
      | ((with_reducible refine gate_store (t := 44) (p := 6) rfl ?_); refine fr_put H rfl rfl rfl rfl rfl (by repeat (first | exact At.head | apply At.tail)) (by rfl) (by kernel_rfl) (by simp [Value.oneCell']) ?_; intro w6_ H1; replace H := H1; clear H1)
      | ((with_reducible refine gate_dst (N := 25) rfl ?_); refine fr_get H rfl rfl rfl (by repeat (first | exact At.head | apply At.tail)) Tryz.underlying42 rfl (by simp only [List.getElem?_toArray, List.getElem?_cons_succ, List.getElem?_cons_zero]; rfl) ?_)
      | ((with_reducible refine gate_dst (N := 30) rfl ?_); (try (refine gate_guard (by rfl) ?_; dsimp only)); refine fr_get H rfl rfl rfl (by repeat (first | exact At.head | apply At.tail)) Tryz.underlying26 rfl (by simp only [List.getElem?_toArray, List.getElem?_cons_succ, List.getElem?_cons_zero]; rfl) ?_)
      | ((with_reducible refine gate_dst (N := 35) rfl ?_); refine fr_get H rfl rfl rfl (by repeat (first | exact At.head | apply At.tail)) Tryz.underlying42 rfl (by simp only [List.getElem?_toArray, List.getElem?_cons_succ, List.getElem?_cons_zero]; rfl) ?_)
      | ((with_reducible refine gate_dst (N := 40) rfl ?_); refine fr_sub H (n := 15) rfl rfl rfl (by repeat (first | exact At.head | apply At.tail)) Tryz.underlying49 rfl (by kernel_rfl) (by simp only [List.toList_toArray, List.drop_succ_cons, List.drop_zero, List.take_succ_cons, List.take_zero]; rfl) (by rfl) ?_)
      | ((with_reducible refine gate_dst (N := 8) rfl ?_); refine fr_new H (N := 8) rfl rfl (cs := #[.int .i64 0, .int .i64 0, .int .i64 0, .int .i64 0, .int .i64 0, .int .i64 0, .bool false, .bool false, .int .i64 0, .int .i64 0, .int .i64 0, .int .i64 0, .int .i64 0, .slice none 0 0, .int .i64 0]) (t := 49) ?hr ?_; (case hr => first | (go_simp; done) | (go_simp; rfl)); intro g8 w8 H1; replace H := H1; clear H1)
      | ((with_reducible refine gate_store (t := 49) (p := 8) rfl ?_); refine fr_put H rfl rfl rfl rfl rfl (by repeat (first | exact At.head | apply At.tail)) (by rfl) (by kernel_rfl) (by simp [Value.oneCell']) ?_; intro w8_ H1; replace H := H1; clear H1)
      | ((with_reducible refine gate_dst (N := 43) rfl ?_); refine fr_get H rfl rfl rfl (by repeat (first | exact At.head | apply At.tail)) Tryz.underlying26 rfl (by simp only [List.getElem?_toArray, List.getElem?_cons_succ, List.getElem?_cons_zero]; rfl) ?_)
      | fail)
    go_ret
    exact ⟨by rw [HG.out]; rfl, H.below⟩
  | false =>
    cases b2 with
    | true =>
      go_wp2_with (first
        | ((with_reducible refine gate_dst (N := 2) rfl ?_); refine fr_box H rfl rfl rfl ?_; intro g2 w2 H1; replace H := H1; clear H1)
        | ((with_reducible refine gate_dst (N := 10) rfl ?_); refine fr_get H rfl rfl rfl (by repeat (first | exact At.head | apply At.tail)) Tryz.underlying26 rfl (by simp only [List.getElem?_toArray, List.getElem?_cons_succ, List.getElem?_cons_zero]; rfl) ?_)
        | ((with_reducible refine gate_dst (N := 23) rfl ?_); refine fr_sub H (n := 6) rfl rfl rfl (by repeat (first | exact At.head | apply At.tail)) Tryz.underlying44 rfl (by kernel_rfl) (by simp only [List.toList_toArray, List.drop_succ_cons, List.drop_zero, List.take_succ_cons, List.take_zero]; rfl) (by rfl) ?_)
        | ((with_reducible refine gate_dst (N := 6) rfl ?_); refine fr_new H (N := 6) rfl rfl (cs := #[.int .i64 0, .slice none 0 0, .bool false, .int .i64 0, .bool false, .slice none 0 0]) (t := 44) ?hr ?_; (case hr => first | (go_simp; done) | (go_simp; rfl)); intro g6 w6 H1; replace H := H1; clear H1)
        | ((with_reducible refine gate_store (t := 44) (p := 6) rfl ?_); refine fr_put H rfl rfl rfl rfl rfl (by repeat (first | exact At.head | apply At.tail)) (by rfl) (by kernel_rfl) (by simp [Value.oneCell']) ?_; intro w6_ H1; replace H := H1; clear H1)
        | ((with_reducible refine gate_dst (N := 25) rfl ?_); refine fr_get H rfl rfl rfl (by repeat (first | exact At.head | apply At.tail)) Tryz.underlying42 rfl (by simp only [List.getElem?_toArray, List.getElem?_cons_succ, List.getElem?_cons_zero]; rfl) ?_)
        | ((with_reducible refine gate_dst (N := 30) rfl ?_); (try (refine gate_guard (by rfl) ?_; dsimp only)); refine fr_get H rfl rfl rfl (by repeat (first | exact At.head | apply At.tail)) Tryz.underlying26 rfl (by simp only [List.getElem?_toArray, List.getElem?_cons_succ, List.getElem?_cons_zero]; rfl) ?_)
        | ((with_reducible refine gate_dst (N := 35) rfl ?_); refine fr_get H rfl rfl rfl (by repeat (first | exact At.head | apply At.tail)) Tryz.underlying42 rfl (by simp only [List.getElem?_toArray, List.getElem?_cons_succ, List.getElem?_cons_zero]; rfl) ?_)
        | ((with_reducible refine gate_dst (N := 40) rfl ?_); refine fr_sub H (n := 15) rfl rfl rfl (by repeat (first | exact At.head | apply At.tail)) Tryz.underlying49 rfl (by kernel_rfl) (by simp only [List.toList_toArray, List.drop_succ_cons, List.drop_zero, List.take_succ_cons, List.take_zero]; rfl) (by rfl) ?_)
        | ((with_reducible refine gate_dst (N := 8) rfl ?_); refine fr_new H (N := 8) rfl rfl (cs := #[.int .i64 0, .int .i64 0, .int .i64 0, .int .i64 0, .int .i64 0, .int .i64 0, .bool false, .bool false, .int .i64 0, .int .i64 0, .int .i64 0, .int .i64 0, .int .i64 0, .slice none 0 0, .int .i64 0]) (t := 49) ?hr ?_; (case hr => first | (go_simp; done) | (go_simp; rfl)); intro g8 w8 H1; replace H := H1; clear H1)
        | ((with_reducible refine gate_store (t := 49) (p := 8) rfl ?_); refine fr_put H rfl rfl rfl rfl rfl (by repeat (first | exact At.head | apply At.tail)) (by rfl) (by kernel_rfl) (by simp [Value.oneCell']) ?_; intro w8_ H1; replace H := H1; clear H1)
        | ((with_reducible refine gate_dst (N := 43) rfl ?_); refine fr_get H rfl rfl rfl (by repeat (first | exact At.head | apply At.tail)) Tryz.underlying26 rfl (by simp only [List.getElem?_toArray, List.getElem?_cons_succ, List.getElem?_cons_zero]; rfl) ?_)
        | fail)
      go_ret
      exact ⟨by rw [HG.out]; rfl, H.below⟩
    | false =>
      go_wp2_with (first
        | ((with_reducible refine gate_dst (N := 2) rfl ?_); refine fr_box H rfl rfl rfl ?_; intro g2 w2 H1; replace H := H1; clear H1)
        | ((with_reducible refine gate_dst (N := 10) rfl ?_); refine fr_get H rfl rfl rfl (by repeat (first | exact At.head | apply At.tail)) Tryz.underlying26 rfl (by simp only [List.getElem?_toArray, List.getElem?_cons_succ, List.getElem?_cons_zero]; rfl) ?_)
        | ((with_reducible refine gate_dst (N := 23) rfl ?_); refine fr_sub H (n := 6) rfl rfl rfl (by repeat (first | exact At.head | apply At.tail)) Tryz.underlying44 rfl (by kernel_rfl) (by simp only [List.toList_toArray, List.drop_succ_cons, List.drop_zero, List.take_succ_cons, List.take_zero]; rfl) (by rfl) ?_)
        | ((with_reducible refine gate_dst (N := 6) rfl ?_); refine fr_new H (N := 6) rfl rfl (cs := #[.int .i64 0, .slice none 0 0, .bool false, .int .i64 0, .bool false, .slice none 0 0]) (t := 44) ?hr ?_; (case hr => first | (go_simp; done) | (go_simp; rfl)); intro g6 w6 H1; replace H := H1; clear H1)
        | ((with_reducible refine gate_store (t := 44) (p := 6) rfl ?_); refine fr_put H rfl rfl rfl rfl rfl (by repeat (first | exact At.head | apply At.tail)) (by rfl) (by kernel_rfl) (by simp [Value.oneCell']) ?_; intro w6_ H1; replace H := H1; clear H1)
        | ((with_reducible refine gate_dst (N := 25) rfl ?_); refine fr_get H rfl rfl rfl (by repeat (first | exact At.head | apply At.tail)) Tryz.underlying42 rfl (by simp only [List.getElem?_toArray, List.getElem?_cons_succ, List.getElem?_cons_zero]; rfl) ?_)
        | ((with_reducible refine gate_dst (N := 30) rfl ?_); (try (refine gate_guard (by rfl) ?_; dsimp only)); refine fr_get H rfl rfl rfl (by repeat (first | exact At.head | apply At.tail)) Tryz.underlying26 rfl (by simp only [List.getElem?_toArray, List.getElem?_cons_succ, List.getElem?_cons_zero]; rfl) ?_)
        | ((with_reducible refine gate_dst (N := 35) rfl ?_); refine fr_get H rfl rfl rfl (by repeat (first | exact At.head | apply At.tail)) Tryz.underlying42 rfl (by simp only [List.getElem?_toArray, List.getElem?_cons_succ, List.getElem?_cons_zero]; rfl) ?_)
        | ((with_reducible refine gate_dst (N := 40) rfl ?_); refine fr_sub H (n := 15) rfl rfl rfl (by repeat (first | exact At.head | apply At.tail)) Tryz.underlying49 rfl (by kernel_rfl) (by simp only [List.toList_toArray, List.drop_succ_cons, List.drop_zero, List.take_succ_cons, List.take_zero]; rfl) (by rfl) ?_)
        | ((with_reducible refine gate_dst (N := 8) rfl ?_); refine fr_new H (N := 8) rfl rfl (cs := #[.int .i64 0, .int .i64 0, .int .i64 0, .int .i64 0, .int .i64 0, .int .i64 0, .bool false, .bool false, .int .i64 0, .int .i64 0, .int .i64 0, .int .i64 0, .int .i64 0, .slice none 0 0, .int .i64 0]) (t := 49) ?hr ?_; (case hr => first | (go_simp; done) | (go_simp; rfl)); intro g8 w8 H1; replace H := H1; clear H1)
        | ((with_reducible refine gate_store (t := 49) (p := 8) rfl ?_); refine fr_put H rfl rfl rfl rfl rfl (by repeat (first | exact At.head | apply At.tail)) (by rfl) (by kernel_rfl) (by simp [Value.oneCell']) ?_; intro w8_ H1; replace H := H1; clear H1)
        | ((with_reducible refine gate_dst (N := 43) rfl ?_); refine fr_get H rfl rfl rfl (by repeat (first | exact At.head | apply At.tail)) Tryz.underlying26 rfl (by simp only [List.getElem?_toArray, List.getElem?_cons_succ, List.getElem?_cons_zero]; rfl) ?_)
        | fail)
      go_loopw [20] (fun v20 wr => ∃ k : Nat, k ≤ m ∧ v20 = .int .i64 k ∧ Hid (∀ y ∈ l.take k, greatX y.x = false) ∧ Fr (fun _ => False) (fun _ => False) w wr [] (fun W => RowI W Ai l)) (fun v20 _ => m - (intOf v20).toNat)
      case atStart => exact ⟨0, by omega, rfl, Lib.hid (fun y hy => by simp at hy), H.drop⟩
      case round =>
        clear H
        obtain ⟨k, hk, rfl, HQ, H⟩ := hrel
        by_cases hlt : k < m
        · have hkl : k < l.length := by rw [HM.out]; exact hlt
          have hk1 : (k : Int) < (m : Int) := by omega
          have hs1 : -9223372036854775808 ≤ (k : Int) + 1 := by omega
          have hs2 : (k : Int) + 1 ≤ 9223372036854775807 := by omega
          obtain ⟨⟨ad, e, hx⟩, hrh⟩ := H.now k hkl
          cases e
          obtain ⟨y, hye⟩ : ∃ y, l[k] = y := ⟨_, rfl⟩
          have HT : Hid (l.take (k + 1) = l.take k ++ [y]) := Lib.hid (by rw [List.take_succ_eq_append_getElem hkl, hye])
          have HMEM : Hid (y ∈ l) := Lib.hid (hye ▸ List.getElem_mem hkl)
          have HRH : Hid (∀ W, RowI W (some ad) l → RowH W y.Ah y.x.heard) := Lib.hid (fun W h => by have := (h k hkl).2; rw [hye] at this; exact this)
          rw [hye] at hx hrh
          clear hye hrh
          obtain ⟨⟨ticks, heard, ref, reading, given, tab⟩, Ah, ch, Ax, ct⟩ := y
          have HC : Hid (∀ j u, [Value.int .i64 ticks, .slice Ah heard.length ch, .bool ref, .int .i64 reading, .bool given, .slice Ax tab.length ct][j]? = some u → wr.cell? ((ad.add (k * 6)).add j) = some u) := Lib.hid hx
          have hhl : heard.length ≤ 9223372036854775807 := HH.out _ HMEM.out
          obtain ⟨d1, e1⟩ : ∃ b, decide (40 < heard.length) = b := ⟨_, rfl⟩
          obtain ⟨d2, e2⟩ : ∃ b, decide (128 < tab.length) = b := ⟨_, rfl⟩
          have HX : Hid (greatX ⟨ticks, heard, ref, reading, given, tab⟩ = (d1 || d2 || heard.any (fun h => decide (128 < h.n)))) := Lib.hid (by unfold greatX; rw [e1, e2])
          have f1 : decide ((40 : Int) < (heard.length : Int)) = d1 := nat_dec e1
          have f2 : decide ((128 : Int) < (tab.length : Int)) = d2 := nat_dec e2
          obtain ⟨nh, hnh⟩ : ∃ x, heard.length = x := ⟨_, rfl⟩
          obtain ⟨nt, hnt⟩ : ∃ x, tab.length = x := ⟨_, rfl⟩
          have HNH := Lib.hid hnh
          rw [hnh] at HC hhl f1
          rw [hnt] at HC f2
          clear hx e1 e2 hnh hnt
          have HBAD : Hid (greatX ⟨ticks, heard, ref, reading, given, tab⟩ = true → greatP n l = true) := Lib.hid (fun h => by
            rw [HG.out, List.any_eq_true.2 ⟨_, HMEM.out, h⟩]; rfl)
          dsimp only at HRH
          cases d1 with
          | true =>
            go_wp2_with (first
              | ((with_reducible refine gate_dst (N := 23) rfl ?_); refine load_cells rfl rfl (ad := ad.add (k * 6)) (cs := [.int .i64 ticks, .slice Ah nh ch, .bool ref, .int .i64 reading, .bool given, .slice Ax nt ct]) ?hx Tryz.underlying44 rfl (by kernel_rfl) HC.out ?_; (case hx => first | rfl | (go_simp; done) | (go_simp; rfl)))
              | ((with_reducible refine gate_dst (N := 2) rfl ?_); refine fr_box H rfl rfl rfl ?_; intro g2 w2 H1; replace H := H1; clear H1)
              | ((with_reducible refine gate_dst (N := 10) rfl ?_); refine fr_get H rfl rfl rfl (by repeat (first | exact At.head | apply At.tail)) Tryz.underlying26 rfl (by simp only [List.getElem?_toArray, List.getElem?_cons_succ, List.getElem?_cons_zero]; rfl) ?_)
              | ((with_reducible refine gate_dst (N := 23) rfl ?_); refine fr_sub H (n := 6) rfl rfl rfl (by repeat (first | exact At.head | apply At.tail)) Tryz.underlying44 rfl (by kernel_rfl) (by simp only [List.toList_toArray, List.drop_succ_cons, List.drop_zero, List.take_succ_cons, List.take_zero]; rfl) (by rfl) ?_)
              | ((with_reducible refine gate_dst (N := 6) rfl ?_); refine fr_new H (N := 6) rfl rfl (cs := #[.int .i64 0, .slice none 0 0, .bool false, .int .i64 0, .bool false, .slice none 0 0]) (t := 44) ?hr ?_; (case hr => first | (go_simp; done) | (go_simp; rfl)); intro g6 w6 H1; replace H := H1; clear H1)
              | ((with_reducible refine gate_store (t := 44) (p := 6) rfl ?_); refine fr_put H rfl rfl rfl rfl rfl (by repeat (first | exact At.head | apply At.tail)) (by rfl) (by kernel_rfl) (by simp [Value.oneCell']) ?_; intro w6_ H1; replace H := H1; clear H1)
              | ((with_reducible refine gate_dst (N := 25) rfl ?_); refine fr_get H rfl rfl rfl (by repeat (first | exact At.head | apply At.tail)) Tryz.underlying42 rfl (by simp only [List.getElem?_toArray, List.getElem?_cons_succ, List.getElem?_cons_zero]; rfl) ?_)
              | ((with_reducible refine gate_dst (N := 30) rfl ?_); (try (refine gate_guard (by rfl) ?_; dsimp only)); refine fr_get H rfl rfl rfl (by repeat (first | exact At.head | apply At.tail)) Tryz.underlying26 rfl (by simp only [List.getElem?_toArray, List.getElem?_cons_succ, List.getElem?_cons_zero]; rfl) ?_)
              | ((with_reducible refine gate_dst (N := 35) rfl ?_); refine fr_get H rfl rfl rfl (by repeat (first | exact At.head | apply At.tail)) Tryz.underlying42 rfl (by simp only [List.getElem?_toArray, List.getElem?_cons_succ, List.getElem?_cons_zero]; rfl) ?_)
              | ((with_reducible refine gate_dst (N := 40) rfl ?_); refine fr_sub H (n := 15) rfl rfl rfl (by repeat (first | exact At.head | apply At.tail)) Tryz.underlying49 rfl (by kernel_rfl) (by simp only [List.toList_toArray, List.drop_succ_cons, List.drop_zero, List.take_succ_cons, List.take_zero]; rfl) (by rfl) ?_)
              | ((with_reducible refine gate_dst (N := 8) rfl ?_); refine fr_new H (N := 8) rfl rfl (cs := #[.int .i64 0, .int .i64 0, .int .i64 0, .int .i64 0, .int .i64 0, .int .i64 0, .bool false, .bool false, .int .i64 0, .int .i64 0, .int .i64 0, .int .i64 0, .int .i64 0, .slice none 0 0, .int .i64 0]) (t := 49) ?hr ?_; (case hr => first | (go_simp; done) | (go_simp; rfl)); intro g8 w8 H1; replace H := H1; clear H1)
              | ((with_reducible refine gate_store (t := 49) (p := 8) rfl ?_); refine fr_put H rfl rfl rfl rfl rfl (by repeat (first | exact At.head | apply At.tail)) (by rfl) (by kernel_rfl) (by simp [Value.oneCell']) ?_; intro w8_ H1; replace H := H1; clear H1)
              | ((with_reducible refine gate_dst (N := 43) rfl ?_); refine fr_get H rfl rfl rfl (by repeat (first | exact At.head | apply At.tail)) Tryz.underlying26 rfl (by simp only [List.getElem?_toArray, List.getElem?_cons_succ, List.getElem?_cons_zero]; rfl) ?_)
              | fail)
            go_ret
            exact ⟨by rw [HBAD.out (by rw [HX.out]; rfl)]; rfl, H.below⟩
          | false =>
            cases d2 with
            | true =>
              go_wp2_with (first
                | ((with_reducible refine gate_dst (N := 23) rfl ?_); refine load_cells rfl rfl (ad := ad.add (k * 6)) (cs := [.int .i64 ticks, .slice Ah nh ch, .bool ref, .int .i64 reading, .bool given, .slice Ax nt ct]) ?hx Tryz.underlying44 rfl (by kernel_rfl) HC.out ?_; (case hx => first | rfl | (go_simp; done) | (go_simp; rfl)))
                | ((with_reducible refine gate_dst (N := 2) rfl ?_); refine fr_box H rfl rfl rfl ?_; intro g2 w2 H1; replace H := H1; clear H1)
                | ((with_reducible refine gate_dst (N := 10) rfl ?_); refine fr_get H rfl rfl rfl (by repeat (first | exact At.head | apply At.tail)) Tryz.underlying26 rfl (by simp only [List.getElem?_toArray, List.getElem?_cons_succ, List.getElem?_cons_zero]; rfl) ?_)
                | ((with_reducible refine gate_dst (N := 23) rfl ?_); refine fr_sub H (n := 6) rfl rfl rfl (by repeat (first | exact At.head | apply At.tail)) Tryz.underlying44 rfl (by kernel_rfl) (by simp only [List.toList_toArray, List.drop_succ_cons, List.drop_zero, List.take_succ_cons, List.take_zero]; rfl) (by rfl) ?_)
                | ((with_reducible refine gate_dst (N := 6) rfl ?_); refine fr_new H (N := 6) rfl rfl (cs := #[.int .i64 0, .slice none 0 0, .bool false, .int .i64 0, .bool false, .slice none 0 0]) (t := 44) ?hr ?_; (case hr => first | (go_simp; done) | (go_simp; rfl)); intro g6 w6 H1; replace H := H1; clear H1)
                | ((with_reducible refine gate_store (t := 44) (p := 6) rfl ?_); refine fr_put H rfl rfl rfl rfl rfl (by repeat (first | exact At.head | apply At.tail)) (by rfl) (by kernel_rfl) (by simp [Value.oneCell']) ?_; intro w6_ H1; replace H := H1; clear H1)
                | ((with_reducible refine gate_dst (N := 25) rfl ?_); refine fr_get H rfl rfl rfl (by repeat (first | exact At.head | apply At.tail)) Tryz.underlying42 rfl (by simp only [List.getElem?_toArray, List.getElem?_cons_succ, List.getElem?_cons_zero]; rfl) ?_)
                | ((with_reducible refine gate_dst (N := 30) rfl ?_); (try (refine gate_guard (by rfl) ?_; dsimp only)); refine fr_get H rfl rfl rfl (by repeat (first | exact At.head | apply At.tail)) Tryz.underlying26 rfl (by simp only [List.getElem?_toArray, List.getElem?_cons_succ, List.getElem?_cons_zero]; rfl) ?_)
                | ((with_reducible refine gate_dst (N := 35) rfl ?_); refine fr_get H rfl rfl rfl (by repeat (first | exact At.head | apply At.tail)) Tryz.underlying42 rfl (by simp only [List.getElem?_toArray, List.getElem?_cons_succ, List.getElem?_cons_zero]; rfl) ?_)
                | ((with_reducible refine gate_dst (N := 40) rfl ?_); refine fr_sub H (n := 15) rfl rfl rfl (by repeat (first | exact At.head | apply At.tail)) Tryz.underlying49 rfl (by kernel_rfl) (by simp only [List.toList_toArray, List.drop_succ_cons, List.drop_zero, List.take_succ_cons, List.take_zero]; rfl) (by rfl) ?_)
                | ((with_reducible refine gate_dst (N := 8) rfl ?_); refine fr_new H (N := 8) rfl rfl (cs := #[.int .i64 0, .int .i64 0, .int .i64 0, .int .i64 0, .int .i64 0, .int .i64 0, .bool false, .bool false, .int .i64 0, .int .i64 0, .int .i64 0, .int .i64 0, .int .i64 0, .slice none 0 0, .int .i64 0]) (t := 49) ?hr ?_; (case hr => first | (go_simp; done) | (go_simp; rfl)); intro g8 w8 H1; replace H := H1; clear H1)
                | ((with_reducible refine gate_store (t := 49) (p := 8) rfl ?_); refine fr_put H rfl rfl rfl rfl rfl (by repeat (first | exact At.head | apply At.tail)) (by rfl) (by kernel_rfl) (by simp [Value.oneCell']) ?_; intro w8_ H1; replace H := H1; clear H1)
                | ((with_reducible refine gate_dst (N := 43) rfl ?_); refine fr_get H rfl rfl rfl (by repeat (first | exact At.head | apply At.tail)) Tryz.underlying26 rfl (by simp only [List.getElem?_toArray, List.getElem?_cons_succ, List.getElem?_cons_zero]; rfl) ?_)
                | fail)
              go_ret
              exact ⟨by rw [HBAD.out (by rw [HX.out]; rfl)]; rfl, H.below⟩
            | false =>
              go_wp2_with (first
                | ((with_reducible refine gate_dst (N := 23) rfl ?_); refine load_cells rfl rfl (ad := ad.add (k * 6)) (cs := [.int .i64 ticks, .slice Ah nh ch, .bool ref, .int .i64 reading, .bool given, .slice Ax nt ct]) ?hx Tryz.underlying44 rfl (by kernel_rfl) HC.out ?_; (case hx => first | rfl | (go_simp; done) | (go_simp; rfl)))
                | ((with_reducible refine gate_dst (N := 2) rfl ?_); refine fr_box H rfl rfl rfl ?_; intro g2 w2 H1; replace H := H1; clear H1)
                | ((with_reducible refine gate_dst (N := 10) rfl ?_); refine fr_get H rfl rfl rfl (by repeat (first | exact At.head | apply At.tail)) Tryz.underlying26 rfl (by simp only [List.getElem?_toArray, List.getElem?_cons_succ, List.getElem?_cons_zero]; rfl) ?_)
                | ((with_reducible refine gate_dst (N := 23) rfl ?_); refine fr_sub H (n := 6) rfl rfl rfl (by repeat (first | exact At.head | apply At.tail)) Tryz.underlying44 rfl (by kernel_rfl) (by simp only [List.toList_toArray, List.drop_succ_cons, List.drop_zero, List.take_succ_cons, List.take_zero]; rfl) (by rfl) ?_)
                | ((with_reducible refine gate_dst (N := 6) rfl ?_); refine fr_new H (N := 6) rfl rfl (cs := #[.int .i64 0, .slice none 0 0, .bool false, .int .i64 0, .bool false, .slice none 0 0]) (t := 44) ?hr ?_; (case hr => first | (go_simp; done) | (go_simp; rfl)); intro g6 w6 H1; replace H := H1; clear H1)
                | ((with_reducible refine gate_store (t := 44) (p := 6) rfl ?_); refine fr_put H rfl rfl rfl rfl rfl (by repeat (first | exact At.head | apply At.tail)) (by rfl) (by kernel_rfl) (by simp [Value.oneCell']) ?_; intro w6_ H1; replace H := H1; clear H1)
                | ((with_reducible refine gate_dst (N := 25) rfl ?_); refine fr_get H rfl rfl rfl (by repeat (first | exact At.head | apply At.tail)) Tryz.underlying42 rfl (by simp only [List.getElem?_toArray, List.getElem?_cons_succ, List.getElem?_cons_zero]; rfl) ?_)
                | ((with_reducible refine gate_dst (N := 30) rfl ?_); (try (refine gate_guard (by rfl) ?_; dsimp only)); refine fr_get H rfl rfl rfl (by repeat (first | exact At.head | apply At.tail)) Tryz.underlying26 rfl (by simp only [List.getElem?_toArray, List.getElem?_cons_succ, List.getElem?_cons_zero]; rfl) ?_)
                | ((with_reducible refine gate_dst (N := 35) rfl ?_); refine fr_get H rfl rfl rfl (by repeat (first | exact At.head | apply At.tail)) Tryz.underlying42 rfl (by simp only [List.getElem?_toArray, List.getElem?_cons_succ, List.getElem?_cons_zero]; rfl) ?_)
                | ((with_reducible refine gate_dst (N := 40) rfl ?_); refine fr_sub H (n := 15) rfl rfl rfl (by repeat (first | exact At.head | apply At.tail)) Tryz.underlying49 rfl (by kernel_rfl) (by simp only [List.toList_toArray, List.drop_succ_cons, List.drop_zero, List.take_succ_cons, List.take_zero]; rfl) (by rfl) ?_)
                | ((with_reducible refine gate_dst (N := 8) rfl ?_); refine fr_new H (N := 8) rfl rfl (cs := #[.int .i64 0, .int .i64 0, .int .i64 0, .int .i64 0, .int .i64 0, .int .i64 0, .bool false, .bool false, .int .i64 0, .int .i64 0, .int .i64 0, .int .i64 0, .int .i64 0, .slice none 0 0, .int .i64 0]) (t := 49) ?hr ?_; (case hr => first | (go_simp; done) | (go_simp; rfl)); intro g8 w8 H1; replace H := H1; clear H1)
                | ((with_reducible refine gate_store (t := 49) (p := 8) rfl ?_); refine fr_put H rfl rfl rfl rfl rfl (by repeat (first | exact At.head | apply At.tail)) (by rfl) (by kernel_rfl) (by simp [Value.oneCell']) ?_; intro w8_ H1; replace H := H1; clear H1)
                | ((with_reducible refine gate_dst (N := 43) rfl ?_); refine fr_get H rfl rfl rfl (by repeat (first | exact At.head | apply At.tail)) Tryz.underlying26 rfl (by simp only [List.getElem?_toArray, List.getElem?_cons_succ, List.getElem?_cons_zero]; rfl) ?_)
                | fail)
              go_loopw [37] (fun v37 wr => ∃ j : Nat, j ≤ nh ∧ v37 = .int .i64 j ∧ Hid (∀ h ∈ heard.take j, decide (128 < h.n) = false) ∧ Fr (fun _ => False) (fun _ => False) w wr [] (fun W => RowI W (some ad) l)) (fun v37 _ => nh - (intOf v37).toNat)
              case atStart => exact ⟨0, by omega, rfl, Lib.hid (fun y hy => by simp at hy), H.drop⟩
              case round =>
                clear H HC
                obtain ⟨j, hj, rfl, HJ, H⟩ := hrel
                by_cases hjt : j < nh
                · have hjl : j < heard.length := by rw [HNH.out]; exact hjt
                  have hj1 : (j : Int) < (nh : Int) := by omega
                  have hs3 : -9223372036854775808 ≤ (j : Int) + 1 := by omega
                  have hs4 : (j : Int) + 1 ≤ 9223372036854775807 := by omega
                  obtain ⟨ad2, e2, hc2⟩ := HRH.out _ H.now j hjl
                  cases e2
                  obtain ⟨z, hze⟩ : ∃ z, heard[j] = z := ⟨_, rfl⟩
                  have HTJ : Hid (heard.take (j + 1) = heard.take j ++ [z]) := Lib.hid (by rw [List.take_succ_eq_append_getElem hjl, hze])
                  have HZM : Hid (z ∈ heard) := Lib.hid (hze ▸ List.getElem_mem hjl)
                  rw [hze] at hc2
                  clear hze
                  obtain ⟨kind, frm, mlo, mhi, mheld, mhops, mgood, mref, slo, shi, pulse, mst, msn, Am, nm, cm, age⟩ := z
                  have HC2 : Hid (∀ j2 u, [Value.int .i64 kind, .int .i64 frm, .int .i64 mlo, .int .i64 mhi, .int .i64 mheld, .int .i64 mhops, .bool mgood, .bool mref, .int .i64 slo, .int .i64 shi, .int .i64 pulse, .int .i64 mst, .int .i64 msn, .slice Am nm cm, .int .i64 age][j2]? = some u → wr.cell? ((ad2.add (j * 15)).add j2) = some u) := Lib.hid hc2
                  obtain ⟨d3, e3⟩ : ∃ b, decide (128 < nm) = b := ⟨_, rfl⟩
                  have f3 : decide ((128 : Int) < (nm : Int)) = d3 := nat_dec e3
                  have HE3 := Lib.hid e3
                  clear hc2 e3
                  cases d3 with
                  | true =>
                    go_wp2_with (first
                      | ((with_reducible refine gate_dst (N := 40) rfl ?_); refine load_cells rfl rfl (ad := ad2.add (j * 15)) (cs := [.int .i64 kind, .int .i64 frm, .int .i64 mlo, .int .i64 mhi, .int .i64 mheld, .int .i64 mhops, .bool mgood, .bool mref, .int .i64 slo, .int .i64 shi, .int .i64 pulse, .int .i64 mst, .int .i64 msn, .slice Am nm cm, .int .i64 age]) ?hx Tryz.underlying49 rfl (by kernel_rfl) HC2.out ?_; (case hx => first | rfl | (go_simp; done) | (go_simp; rfl)))
                      | ((with_reducible refine gate_dst (N := 2) rfl ?_); refine fr_box H rfl rfl rfl ?_; intro g2 w2 H1; replace H := H1; clear H1)
                      | ((with_reducible refine gate_dst (N := 10) rfl ?_); refine fr_get H rfl rfl rfl (by repeat (first | exact At.head | apply At.tail)) Tryz.underlying26 rfl (by simp only [List.getElem?_toArray, List.getElem?_cons_succ, List.getElem?_cons_zero]; rfl) ?_)
                      | ((with_reducible refine gate_dst (N := 23) rfl ?_); refine fr_sub H (n := 6) rfl rfl rfl (by repeat (first | exact At.head | apply At.tail)) Tryz.underlying44 rfl (by kernel_rfl) (by simp only [List.toList_toArray, List.drop_succ_cons, List.drop_zero, List.take_succ_cons, List.take_zero]; rfl) (by rfl) ?_)
                      | ((with_reducible refine gate_dst (N := 6) rfl ?_); refine fr_new H (N := 6) rfl rfl (cs := #[.int .i64 0, .slice none 0 0, .bool false, .int .i64 0, .bool false, .slice none 0 0]) (t := 44) ?hr ?_; (case hr => first | (go_simp; done) | (go_simp; rfl)); intro g6 w6 H1; replace H := H1; clear H1)
                      | ((with_reducible refine gate_store (t := 44) (p := 6) rfl ?_); refine fr_put H rfl rfl rfl rfl rfl (by repeat (first | exact At.head | apply At.tail)) (by rfl) (by kernel_rfl) (by simp [Value.oneCell']) ?_; intro w6_ H1; replace H := H1; clear H1)
                      | ((with_reducible refine gate_dst (N := 25) rfl ?_); refine fr_get H rfl rfl rfl (by repeat (first | exact At.head | apply At.tail)) Tryz.underlying42 rfl (by simp only [List.getElem?_toArray, List.getElem?_cons_succ, List.getElem?_cons_zero]; rfl) ?_)
                      | ((with_reducible refine gate_dst (N := 30) rfl ?_); (try (refine gate_guard (by rfl) ?_; dsimp only)); refine fr_get H rfl rfl rfl (by repeat (first | exact At.head | apply At.tail)) Tryz.underlying26 rfl (by simp only [List.getElem?_toArray, List.getElem?_cons_succ, List.getElem?_cons_zero]; rfl) ?_)
                      | ((with_reducible refine gate_dst (N := 35) rfl ?_); refine fr_get H rfl rfl rfl (by repeat (first | exact At.head | apply At.tail)) Tryz.underlying42 rfl (by simp only [List.getElem?_toArray, List.getElem?_cons_succ, List.getElem?_cons_zero]; rfl) ?_)
                      | ((with_reducible refine gate_dst (N := 40) rfl ?_); refine fr_sub H (n := 15) rfl rfl rfl (by repeat (first | exact At.head | apply At.tail)) Tryz.underlying49 rfl (by kernel_rfl) (by simp only [List.toList_toArray, List.drop_succ_cons, List.drop_zero, List.take_succ_cons, List.take_zero]; rfl) (by rfl) ?_)
                      | ((with_reducible refine gate_dst (N := 8) rfl ?_); refine fr_new H (N := 8) rfl rfl (cs := #[.int .i64 0, .int .i64 0, .int .i64 0, .int .i64 0, .int .i64 0, .int .i64 0, .bool false, .bool false, .int .i64 0, .int .i64 0, .int .i64 0, .int .i64 0, .int .i64 0, .slice none 0 0, .int .i64 0]) (t := 49) ?hr ?_; (case hr => first | (go_simp; done) | (go_simp; rfl)); intro g8 w8 H1; replace H := H1; clear H1)
                      | ((with_reducible refine gate_store (t := 49) (p := 8) rfl ?_); refine fr_put H rfl rfl rfl rfl rfl (by repeat (first | exact At.head | apply At.tail)) (by rfl) (by kernel_rfl) (by simp [Value.oneCell']) ?_; intro w8_ H1; replace H := H1; clear H1)
                      | ((with_reducible refine gate_dst (N := 43) rfl ?_); refine fr_get H rfl rfl rfl (by repeat (first | exact At.head | apply At.tail)) Tryz.underlying26 rfl (by simp only [List.getElem?_toArray, List.getElem?_cons_succ, List.getElem?_cons_zero]; rfl) ?_)
                      | fail)
                    go_ret
                    exact ⟨by rw [HBAD.out (by rw [HX.out, List.any_eq_true.2 ⟨_, HZM.out, HE3.out⟩]; rfl)]; rfl, H.below⟩
                  | false =>
                    go_wp2_with (first
                      | ((with_reducible refine gate_dst (N := 40) rfl ?_); refine load_cells rfl rfl (ad := ad2.add (j * 15)) (cs := [.int .i64 kind, .int .i64 frm, .int .i64 mlo, .int .i64 mhi, .int .i64 mheld, .int .i64 mhops, .bool mgood, .bool mref, .int .i64 slo, .int .i64 shi, .int .i64 pulse, .int .i64 mst, .int .i64 msn, .slice Am nm cm, .int .i64 age]) ?hx Tryz.underlying49 rfl (by kernel_rfl) HC2.out ?_; (case hx => first | rfl | (go_simp; done) | (go_simp; rfl)))
                      | ((with_reducible refine gate_dst (N := 2) rfl ?_); refine fr_box H rfl rfl rfl ?_; intro g2 w2 H1; replace H := H1; clear H1)
                      | ((with_reducible refine gate_dst (N := 10) rfl ?_); refine fr_get H rfl rfl rfl (by repeat (first | exact At.head | apply At.tail)) Tryz.underlying26 rfl (by simp only [List.getElem?_toArray, List.getElem?_cons_succ, List.getElem?_cons_zero]; rfl) ?_)
                      | ((with_reducible refine gate_dst (N := 23) rfl ?_); refine fr_sub H (n := 6) rfl rfl rfl (by repeat (first | exact At.head | apply At.tail)) Tryz.underlying44 rfl (by kernel_rfl) (by simp only [List.toList_toArray, List.drop_succ_cons, List.drop_zero, List.take_succ_cons, List.take_zero]; rfl) (by rfl) ?_)
                      | ((with_reducible refine gate_dst (N := 6) rfl ?_); refine fr_new H (N := 6) rfl rfl (cs := #[.int .i64 0, .slice none 0 0, .bool false, .int .i64 0, .bool false, .slice none 0 0]) (t := 44) ?hr ?_; (case hr => first | (go_simp; done) | (go_simp; rfl)); intro g6 w6 H1; replace H := H1; clear H1)
                      | ((with_reducible refine gate_store (t := 44) (p := 6) rfl ?_); refine fr_put H rfl rfl rfl rfl rfl (by repeat (first | exact At.head | apply At.tail)) (by rfl) (by kernel_rfl) (by simp [Value.oneCell']) ?_; intro w6_ H1; replace H := H1; clear H1)
                      | ((with_reducible refine gate_dst (N := 25) rfl ?_); refine fr_get H rfl rfl rfl (by repeat (first | exact At.head | apply At.tail)) Tryz.underlying42 rfl (by simp only [List.getElem?_toArray, List.getElem?_cons_succ, List.getElem?_cons_zero]; rfl) ?_)
                      | ((with_reducible refine gate_dst (N := 30) rfl ?_); (try (refine gate_guard (by rfl) ?_; dsimp only)); refine fr_get H rfl rfl rfl (by repeat (first | exact At.head | apply At.tail)) Tryz.underlying26 rfl (by simp only [List.getElem?_toArray, List.getElem?_cons_succ, List.getElem?_cons_zero]; rfl) ?_)
                      | ((with_reducible refine gate_dst (N := 35) rfl ?_); refine fr_get H rfl rfl rfl (by repeat (first | exact At.head | apply At.tail)) Tryz.underlying42 rfl (by simp only [List.getElem?_toArray, List.getElem?_cons_succ, List.getElem?_cons_zero]; rfl) ?_)
                      | ((with_reducible refine gate_dst (N := 40) rfl ?_); refine fr_sub H (n := 15) rfl rfl rfl (by repeat (first | exact At.head | apply At.tail)) Tryz.underlying49 rfl (by kernel_rfl) (by simp only [List.toList_toArray, List.drop_succ_cons, List.drop_zero, List.take_succ_cons, List.take_zero]; rfl) (by rfl) ?_)
                      | ((with_reducible refine gate_dst (N := 8) rfl ?_); refine fr_new H (N := 8) rfl rfl (cs := #[.int .i64 0, .int .i64 0, .int .i64 0, .int .i64 0, .int .i64 0, .int .i64 0, .bool false, .bool false, .int .i64 0, .int .i64 0, .int .i64 0, .int .i64 0, .int .i64 0, .slice none 0 0, .int .i64 0]) (t := 49) ?hr ?_; (case hr => first | (go_simp; done) | (go_simp; rfl)); intro g8 w8 H1; replace H := H1; clear H1)
                      | ((with_reducible refine gate_store (t := 49) (p := 8) rfl ?_); refine fr_put H rfl rfl rfl rfl rfl (by repeat (first | exact At.head | apply At.tail)) (by rfl) (by kernel_rfl) (by simp [Value.oneCell']) ?_; intro w8_ H1; replace H := H1; clear H1)
                      | ((with_reducible refine gate_dst (N := 43) rfl ?_); refine fr_get H rfl rfl rfl (by repeat (first | exact At.head | apply At.tail)) Tryz.underlying26 rfl (by simp only [List.getElem?_toArray, List.getElem?_cons_succ, List.getElem?_cons_zero]; rfl) ?_)
                      | fail)
                    go_roundw
                    case rel => exact ⟨j + 1, by omega, by simp, Lib.hid (fun h hm => by
                      rw [HTJ.out] at hm
                      rcases List.mem_append.1 hm with hm | hm
                      · exact HJ.out h hm
                      · rw [List.mem_singleton.1 hm]; exact HE3.out), H.drop⟩
                    case measure => simp [intOf]; omega
                · obtain rfl : j = nh := by omega
                  go_wp2_with (first
                    | ((with_reducible refine gate_dst (N := 2) rfl ?_); refine fr_box H rfl rfl rfl ?_; intro g2 w2 H1; replace H := H1; clear H1)
                    | ((with_reducible refine gate_dst (N := 10) rfl ?_); refine fr_get H rfl rfl rfl (by repeat (first | exact At.head | apply At.tail)) Tryz.underlying26 rfl (by simp only [List.getElem?_toArray, List.getElem?_cons_succ, List.getElem?_cons_zero]; rfl) ?_)
                    | ((with_reducible refine gate_dst (N := 23) rfl ?_); refine fr_sub H (n := 6) rfl rfl rfl (by repeat (first | exact At.head | apply At.tail)) Tryz.underlying44 rfl (by kernel_rfl) (by simp only [List.toList_toArray, List.drop_succ_cons, List.drop_zero, List.take_succ_cons, List.take_zero]; rfl) (by rfl) ?_)
                    | ((with_reducible refine gate_dst (N := 6) rfl ?_); refine fr_new H (N := 6) rfl rfl (cs := #[.int .i64 0, .slice none 0 0, .bool false, .int .i64 0, .bool false, .slice none 0 0]) (t := 44) ?hr ?_; (case hr => first | (go_simp; done) | (go_simp; rfl)); intro g6 w6 H1; replace H := H1; clear H1)
                    | ((with_reducible refine gate_store (t := 44) (p := 6) rfl ?_); refine fr_put H rfl rfl rfl rfl rfl (by repeat (first | exact At.head | apply At.tail)) (by rfl) (by kernel_rfl) (by simp [Value.oneCell']) ?_; intro w6_ H1; replace H := H1; clear H1)
                    | ((with_reducible refine gate_dst (N := 25) rfl ?_); refine fr_get H rfl rfl rfl (by repeat (first | exact At.head | apply At.tail)) Tryz.underlying42 rfl (by simp only [List.getElem?_toArray, List.getElem?_cons_succ, List.getElem?_cons_zero]; rfl) ?_)
                    | ((with_reducible refine gate_dst (N := 30) rfl ?_); (try (refine gate_guard (by rfl) ?_; dsimp only)); refine fr_get H rfl rfl rfl (by repeat (first | exact At.head | apply At.tail)) Tryz.underlying26 rfl (by simp only [List.getElem?_toArray, List.getElem?_cons_succ, List.getElem?_cons_zero]; rfl) ?_)
                    | ((with_reducible refine gate_dst (N := 35) rfl ?_); refine fr_get H rfl rfl rfl (by repeat (first | exact At.head | apply At.tail)) Tryz.underlying42 rfl (by simp only [List.getElem?_toArray, List.getElem?_cons_succ, List.getElem?_cons_zero]; rfl) ?_)
                    | ((with_reducible refine gate_dst (N := 40) rfl ?_); refine fr_sub H (n := 15) rfl rfl rfl (by repeat (first | exact At.head | apply At.tail)) Tryz.underlying49 rfl (by kernel_rfl) (by simp only [List.toList_toArray, List.drop_succ_cons, List.drop_zero, List.take_succ_cons, List.take_zero]; rfl) (by rfl) ?_)
                    | ((with_reducible refine gate_dst (N := 8) rfl ?_); refine fr_new H (N := 8) rfl rfl (cs := #[.int .i64 0, .int .i64 0, .int .i64 0, .int .i64 0, .int .i64 0, .int .i64 0, .bool false, .bool false, .int .i64 0, .int .i64 0, .int .i64 0, .int .i64 0, .int .i64 0, .slice none 0 0, .int .i64 0]) (t := 49) ?hr ?_; (case hr => first | (go_simp; done) | (go_simp; rfl)); intro g8 w8 H1; replace H := H1; clear H1)
                    | ((with_reducible refine gate_store (t := 49) (p := 8) rfl ?_); refine fr_put H rfl rfl rfl rfl rfl (by repeat (first | exact At.head | apply At.tail)) (by rfl) (by kernel_rfl) (by simp [Value.oneCell']) ?_; intro w8_ H1; replace H := H1; clear H1)
                    | ((with_reducible refine gate_dst (N := 43) rfl ?_); refine fr_get H rfl rfl rfl (by repeat (first | exact At.head | apply At.tail)) Tryz.underlying26 rfl (by simp only [List.getElem?_toArray, List.getElem?_cons_succ, List.getElem?_cons_zero]; rfl) ?_)
                    | fail)
                  go_roundw
                  case rel => exact ⟨k + 1, by omega, by simp, Lib.hid (fun y hm => by
                    rw [HT.out] at hm
                    rcases List.mem_append.1 hm with hm | hm
                    · exact HQ.out y hm
                    · rw [List.mem_singleton.1 hm, HX.out]
                      have e : heard.take j = heard := List.take_of_length_le (by rw [HNH.out]; exact Nat.le_refl _)
                      rw [List.any_eq_false.2 (fun h hm => by rw [HJ.out h (by rw [e]; exact hm)]; simp)]
                      rfl), H⟩
                  case measure => simp [intOf]; omega
        · obtain rfl : k = m := by omega
          go_wp2_with (first
            | ((with_reducible refine gate_dst (N := 2) rfl ?_); refine fr_box H rfl rfl rfl ?_; intro g2 w2 H1; replace H := H1; clear H1)
            | ((with_reducible refine gate_dst (N := 10) rfl ?_); refine fr_get H rfl rfl rfl (by repeat (first | exact At.head | apply At.tail)) Tryz.underlying26 rfl (by simp only [List.getElem?_toArray, List.getElem?_cons_succ, List.getElem?_cons_zero]; rfl) ?_)
            | ((with_reducible refine gate_dst (N := 23) rfl ?_); refine fr_sub H (n := 6) rfl rfl rfl (by repeat (first | exact At.head | apply At.tail)) Tryz.underlying44 rfl (by kernel_rfl) (by simp only [List.toList_toArray, List.drop_succ_cons, List.drop_zero, List.take_succ_cons, List.take_zero]; rfl) (by rfl) ?_)
            | ((with_reducible refine gate_dst (N := 6) rfl ?_); refine fr_new H (N := 6) rfl rfl (cs := #[.int .i64 0, .slice none 0 0, .bool false, .int .i64 0, .bool false, .slice none 0 0]) (t := 44) ?hr ?_; (case hr => first | (go_simp; done) | (go_simp; rfl)); intro g6 w6 H1; replace H := H1; clear H1)
            | ((with_reducible refine gate_store (t := 44) (p := 6) rfl ?_); refine fr_put H rfl rfl rfl rfl rfl (by repeat (first | exact At.head | apply At.tail)) (by rfl) (by kernel_rfl) (by simp [Value.oneCell']) ?_; intro w6_ H1; replace H := H1; clear H1)
            | ((with_reducible refine gate_dst (N := 25) rfl ?_); refine fr_get H rfl rfl rfl (by repeat (first | exact At.head | apply At.tail)) Tryz.underlying42 rfl (by simp only [List.getElem?_toArray, List.getElem?_cons_succ, List.getElem?_cons_zero]; rfl) ?_)
            | ((with_reducible refine gate_dst (N := 30) rfl ?_); (try (refine gate_guard (by rfl) ?_; dsimp only)); refine fr_get H rfl rfl rfl (by repeat (first | exact At.head | apply At.tail)) Tryz.underlying26 rfl (by simp only [List.getElem?_toArray, List.getElem?_cons_succ, List.getElem?_cons_zero]; rfl) ?_)
            | ((with_reducible refine gate_dst (N := 35) rfl ?_); refine fr_get H rfl rfl rfl (by repeat (first | exact At.head | apply At.tail)) Tryz.underlying42 rfl (by simp only [List.getElem?_toArray, List.getElem?_cons_succ, List.getElem?_cons_zero]; rfl) ?_)
            | ((with_reducible refine gate_dst (N := 40) rfl ?_); refine fr_sub H (n := 15) rfl rfl rfl (by repeat (first | exact At.head | apply At.tail)) Tryz.underlying49 rfl (by kernel_rfl) (by simp only [List.toList_toArray, List.drop_succ_cons, List.drop_zero, List.take_succ_cons, List.take_zero]; rfl) (by rfl) ?_)
            | ((with_reducible refine gate_dst (N := 8) rfl ?_); refine fr_new H (N := 8) rfl rfl (cs := #[.int .i64 0, .int .i64 0, .int .i64 0, .int .i64 0, .int .i64 0, .int .i64 0, .bool false, .bool false, .int .i64 0, .int .i64 0, .int .i64 0, .int .i64 0, .int .i64 0, .slice none 0 0, .int .i64 0]) (t := 49) ?hr ?_; (case hr => first | (go_simp; done) | (go_simp; rfl)); intro g8 w8 H1; replace H := H1; clear H1)
            | ((with_reducible refine gate_store (t := 49) (p := 8) rfl ?_); refine fr_put H rfl rfl rfl rfl rfl (by repeat (first | exact At.head | apply At.tail)) (by rfl) (by kernel_rfl) (by simp [Value.oneCell']) ?_; intro w8_ H1; replace H := H1; clear H1)
            | ((with_reducible refine gate_dst (N := 43) rfl ?_); refine fr_get H rfl rfl rfl (by repeat (first | exact At.head | apply At.tail)) Tryz.underlying26 rfl (by simp only [List.getElem?_toArray, List.getElem?_cons_succ, List.getElem?_cons_zero]; rfl) ?_)
            | fail)
          go_ret
          refine ⟨?_, H.below⟩
          have e : l.take k = l := List.take_of_length_le (by rw [HM.out]; exact Nat.le_refl _)
          rw [HG.out, List.any_eq_false.2 (fun y hm => by rw [HQ.out y (by rw [e]; exact hm)]; simp)]
          rfl
set_option maxRecDepth 100000 in
set_option maxHeartbeats 1000000 in
theorem some_calls (w : World) : Calls Tryz.prog 17 #[] w fun e w' => e = .returned (.agg #[.int .i64 1, .int .i64 0, .int .i64 0, .int .i64 1000, .int .i64 1, .int .i64 100, .int .i64 10, .int .i64 50, .int .i64 20, .int .i64 5, .int .i64 5000, .int .i64 1000]) ∧ Below w.heap.size w w' := by
  have H := Fr.start0 (M := fun _ => False) (A := fun _ => False) (w := w) (p := fun _ => True) (fun _ h => h.elim) (fun _ _ => trivial)
  go_enter Tryz.func17, Tryz.ntmps17
  go_wp2_with (first
    | ((with_reducible refine gate_dst (N := 0) rfl ?_); refine fr_new H (N := 0) rfl rfl (cs := #[.int .i64 0, .int .i64 0, .int .i64 0, .int .i64 0, .int .i64 0, .int .i64 0, .int .i64 0, .int .i64 0, .int .i64 0, .int .i64 0, .int .i64 0, .int .i64 0]) (t := 23) ?hr ?_; (case hr => first | (go_simp; done) | (go_simp; rfl)); intro g0 w0 H1; replace H := H1; clear H1)
    | ((with_reducible refine gate_store (t := 23) (p := 0) rfl ?_); refine fr_put H rfl rfl rfl rfl rfl (by repeat (first | exact At.head | apply At.tail)) (by rfl) (by kernel_rfl) (by simp [Value.oneCell']) ?_; intro w0_ H1; replace H := H1; clear H1)
    | fail)
  refine bodyPost_ret (results_c rfl _ _ g0 23 _ (0, 0) _ rfl (H.of (by repeat (first | exact At.head | apply At.tail))) Tryz.underlying23 rfl (by kernel_rfl)) rfl ?_
  exact ⟨rfl, H.below⟩
def pA : Par := ⟨1, 0, 0, 1000, 1, 100, 10, 50, 20, 5, 5000, 1000⟩
def sA : St := ⟨0, 0, 0, false, 0, 0, false, [], 0, 0, 0⟩
def xA : Inp := ⟨1000, [], true, 5000, false, []⟩
theorem sane_A : saneS pA.D sA = sA := by kernel_rfl
theorem told_nil (N me : Int) : told N me [] = [] := List.eq_nil_of_length_eq_zero (by unfold told; rw [sortB_length]; rfl)
theorem fuse_A : fuse 0 [⟨4950, 5050⟩] = (4950, 5050, true) := by
  have h1 : most 0 (lows [⟨4950, 5050⟩]) = 4950 := most_is (by decide) (by decide) (by decide) (by decide)
  have h2 : least 0 (highs [⟨4950, 5050⟩]) = 5050 := least_is (by decide) (by decide) (by decide) (by decide)
  have h : fuse 0 [⟨4950, 5050⟩] = fin 0 (lows [⟨4950, 5050⟩]) (highs [⟨4950, 5050⟩]) := if_neg (by decide)
  rw [h]
  unfold fin
  rw [h1, h2, if_neg (by decide), clip_id (by decide) (by decide), clip_id (by decide) (by decide)]
theorem spans_A : spansP pA 0 xA = [⟨4950, 5050⟩] := by
  unfold spansP seenL
  rw [show rdB pA xA = true by kernel_rfl, show told pA.N 0 xA.heard = [] from told_nil _ _]
  kernel_rfl
theorem next_A : nextS pA 0 sA xA = ⟨4950, 5050, 0, false, 0, 0, true, [], 0, 0, 0⟩ := by
  unfold nextS
  rw [spans_A, show pA.F = 0 by rfl, fuse_A]
  kernel_rfl
theorem beat_A0 : beatS0 pA 0 sA xA = ⟨4950, 5050, 5000, true, 0, 0, true, [], 5000, 0, 0⟩ := by
  unfold beatS0
  rw [next_A]
  kernel_rfl
theorem beat_A : beatS pA 0 sA xA = ⟨4950, 5050, 5000, true, 0, 0, true, [], 5000, 1, 0⟩ := by
  unfold beatS
  rw [beat_A0]
  kernel_rfl
theorem leaps_nil (w : World) : Kd.C k58 w none 0 [] := ⟨rfl, by omega, fun h => by omega⟩
theorem rowH_nil (w : World) (A : Option Addr) : RowH w A [] := fun k hk => by simp at hk
set_option maxRecDepth 100000 in
set_option maxHeartbeats 4000000 in
theorem alive_calls (w : World) : Calls Tryz.prog 5 #[] w fun e w' => e = .returned (.bool true) ∧ Below w.heap.size w w' := by
  have H := Fr.start0 (M := fun _ => False) (A := fun _ => False) (w := w) (p := fun _ => True) (fun _ h => h.elim) (fun _ _ => trivial)
  have KNew : Hid (∀ W, Calls Tryz.prog 7 #[.agg #[.int .i64 1, .int .i64 0, .int .i64 0, .int .i64 1000, .int .i64 1, .int .i64 100, .int .i64 10, .int .i64 50, .int .i64 20, .int .i64 5, .int .i64 5000, .int .i64 1000], .int .i64 0, .agg #[.int .i64 0, .int .i64 0, .int .i64 0, .bool false, .int .i64 0, .int .i64 0, .bool false, .slice none 0 0, .int .i64 0, .int .i64 0, .int .i64 0]] W fun e w' => ∃ g A' c', e = .returned (.pointer (some ⟨g, 0, none⟩)) ∧ W.heap.size ≤ g ∧ w'.heap[g]? = some (.cells #[.int .i64 1, .int .i64 0, .int .i64 0, .int .i64 1000, .int .i64 1, .int .i64 100, .int .i64 10, .int .i64 50, .int .i64 20, .int .i64 5, .int .i64 5000, .int .i64 1000, .int .i64 0, .int .i64 0, .int .i64 0, .bool false, .int .i64 0, .int .i64 0, .bool false, .slice A' 0 c', .int .i64 0, .int .i64 0, .int .i64 0, .int .i64 0] 41 (0, 0)) ∧ w'.ownsRow W.heap.size 58 2 (.slice A' 0 c') 0 [] ∧ (∀ ad, A' = some ad → ad.block ≠ g) ∧ Below W.heap.size W w') := Lib.hid (fun W => by
    have := New_calls pA 0 sA none 0 W (leaps_nil W) (by decide)
    rw [sane_A] at this
    exact this)
  have KBeat : Hid (∀ W g A' c', W.heap[g]? = some (.cells #[.int .i64 1, .int .i64 0, .int .i64 0, .int .i64 1000, .int .i64 1, .int .i64 100, .int .i64 10, .int .i64 50, .int .i64 20, .int .i64 5, .int .i64 5000, .int .i64 1000, .int .i64 0, .int .i64 0, .int .i64 0, .bool false, .int .i64 0, .int .i64 0, .bool false, .slice A' 0 c', .int .i64 0, .int .i64 0, .int .i64 0, .int .i64 0] 41 (0, 0)) → Tr (fun k => k = g) W (fun W => W.ownsRow w.heap.size 58 2 (.slice A' 0 c') 0 []) → Calls Tryz.prog 13 #[.pointer (some ⟨g, 0, none⟩), .agg #[.int .i64 1000, .slice none 0 0, .bool true, .int .i64 5000, .bool false, .slice none 0 0]] W fun e w' => ∃ (A1 : Option Addr) (c1 : Nat) (A2 : Option Addr) (c2 : Nat) (rd : Bool) (q1 q2 pu : Int), e = .returned (.agg #[.int .i64 1, .int .i64 0, .int .i64 4950, .int .i64 5050, .int .i64 0, .int .i64 0, .bool true, .bool rd, .int .i64 q1, .int .i64 q2, .int .i64 pu, .int .i64 5000, .int .i64 1, .slice A2 0 c2]) ∧ w'.heap[g]? = some (.cells #[.int .i64 1, .int .i64 0, .int .i64 0, .int .i64 1000, .int .i64 1, .int .i64 100, .int .i64 10, .int .i64 50, .int .i64 20, .int .i64 5, .int .i64 5000, .int .i64 1000, .int .i64 4950, .int .i64 5050, .int .i64 5000, .bool true, .int .i64 0, .int .i64 0, .bool true, .slice A1 0 c1, .int .i64 5000, .int .i64 1, .int .i64 0, .int .i64 0] 41 (0, 0)) ∧ Chg (fun k => k = g) W w') := Lib.hid (fun W g A' c' h1 h2 => by
    have := Beat_calls pA 0 sA A' c' g xA none 0 none 0 W h1 (Foot.imp h2 (fun W' h3 => ⟨rowH_nil _ _, leaps_nil _, by
      obtain ⟨A2, c2, e, _, h4, _⟩ := row_C (l := []) h3 rfl
      injection e with e1 e2 e3
      rw [e1]
      exact h4⟩)) (by decide) (by decide) (by decide)
    rw [beat_A0, beat_A] at this
    refine this.mono fun e w' h => ?_
    obtain ⟨A1, c1, A2, c2, h3, h4, _, _, _, h5⟩ := h
    exact ⟨A1, c1, A2, c2, _, _, _, _, h3, h4, h5⟩)
  have KNow : Hid (∀ W g A' c', W.heap[g]? = some (.cells #[.int .i64 1, .int .i64 0, .int .i64 0, .int .i64 1000, .int .i64 1, .int .i64 100, .int .i64 10, .int .i64 50, .int .i64 20, .int .i64 5, .int .i64 5000, .int .i64 1000, .int .i64 4950, .int .i64 5050, .int .i64 5000, .bool true, .int .i64 0, .int .i64 0, .bool true, .slice A' 0 c', .int .i64 5000, .int .i64 1, .int .i64 0, .int .i64 0] 41 (0, 0)) → Calls Tryz.prog 18 #[.pointer (some ⟨g, 0, none⟩)] W fun e w' => e = .returned (.tuple #[.int .i64 5000, .int .i64 0]) ∧ Below W.heap.size W w') := Lib.hid (fun W g A' c' h => by
    exact Now_calls pA ⟨4950, 5050, 5000, true, 0, 0, true, [], 5000, 1, 0⟩ A' c' g 0 W h)
  go_enter Tryz.func5, Tryz.ntmps5
  go_wp2_with (first
    | (go_at_call 17; (with_reducible refine (some_calls _).mono ?_); rintro e w' ⟨rfl, hb⟩; have H1 := H.call hb; clear hb; replace H := H1; clear H1)
    | (go_at_call 7; (with_reducible refine (KNew.out _).mono ?_); rintro e w' ⟨g, A1, c1, rfl, hg, hb, ho, hne, hB⟩; have H1 := Fr.freshRow H hg hb hB ho hne; clear hg hb hB ho hne H; have H := H1; clear H1)
    | (go_at_call 13; have HT := Foot.imp (Fr.trAt H At.head) (fun _ h => h.2); (with_reducible refine (KBeat.out _ g A1 c1 (H.of At.head) HT).mono ?_); clear HT; rintro e w' ⟨A3, c3, A2, c2, rd, q1, q2, pu, rfl, hb, hc⟩; have H1 := H.turn At.head hb hc; clear hb hc H; have H := H1; clear H1)
    | (go_at_call 18; (with_reducible refine (KNow.out _ _ _ _ (H.of (by repeat (first | exact At.head | apply At.tail)))).mono ?_); rintro e w' ⟨rfl, hb⟩; have H1 := H.call hb; clear hb; replace H := H1; clear H1)
    | ((with_reducible refine gate_dst (N := 2) rfl ?_); refine fr_new H (N := 2) rfl rfl (cs := #[.int .i64 0, .int .i64 0, .int .i64 0, .int .i64 0, .int .i64 0, .int .i64 0, .bool false, .bool false, .int .i64 0, .int .i64 0, .int .i64 0, .int .i64 0, .int .i64 0, .slice none 0 0]) (t := 47) ?hr ?_; (case hr => first | (go_simp; done) | (go_simp; rfl)); intro g2 w2 H1; replace H := H1; clear H1)
    | ((with_reducible refine gate_store (t := 47) (p := 2) rfl ?_); refine fr_put H rfl rfl rfl rfl rfl (by repeat (first | exact At.head | apply At.tail)) (by rfl) (by kernel_rfl) (by simp [Value.oneCell']) ?_; intro w2_ H1; replace H := H1; clear H1)
    | ((with_reducible refine gate_dst (N := 28) rfl ?_); (try (refine gate_guard (by rfl) ?_; dsimp only)); refine fr_sub H (n := 2) rfl rfl rfl (by repeat (first | exact At.head | apply At.tail)) Tryz.underlying25 rfl (by kernel_rfl) (by simp only [List.toList_toArray, List.drop_succ_cons, List.drop_zero, List.take_succ_cons, List.take_zero]; rfl) (by rfl) ?_)
    | ((with_reducible refine gate_dst (N := 34) rfl ?_); (try (refine gate_guard (by rfl) ?_; dsimp only)); refine fr_get H rfl rfl rfl (by repeat (first | exact At.head | apply At.tail)) Tryz.underlying3 rfl (by simp only [List.getElem?_toArray, List.getElem?_cons_succ, List.getElem?_cons_zero]; rfl) ?_)
    | ((with_reducible refine gate_dst (N := 39) rfl ?_); (try (refine gate_guard (by rfl) ?_; dsimp only)); refine fr_get H rfl rfl rfl (by repeat (first | exact At.head | apply At.tail)) Tryz.underlying4 rfl (by simp only [List.getElem?_toArray, List.getElem?_cons_succ, List.getElem?_cons_zero]; rfl) ?_)
    | fail)
  go_ret
  exact ⟨rfl, H.below⟩
end Go.Proofs.YtbmfgcekglgliaaGreat.G

namespace Go.Proofs.YtbmfgcekglgliaaGreatRz
open Go.RowKit Go.Proofs.YtbmfgcekglgliaaGreatW.PrintWords Go.Proofs.YtbmfgcekglgliaaGreatW.PrintLast Go.Proofs.YtbmfgcekglgliaaGreatW.PrintMore
open Go.Proofs.YtbmfgcekglgliaaGreatEm (Fr Chg At Of Tr Keep Frs)
open Go.Proofs.YtbmfgcekglgliaaGreatKr (Take)
set_option linter.unusedVariables false
theorem Fr.sub {M A : Nat → Prop} {w W : World} {bl bl' : List (Nat × Obj)} {p : World → Prop} (h : Fr M A w W bl p) (hs : ∀ x, x ∈ bl' → x ∈ bl) (nd : bl'.Pairwise (fun x y => x.1 ≠ y.1)) : Fr M A w W bl' p :=
  ⟨h.av, h.chg, fun x hx => h.blk x (hs x hx), nd, Tr.less h.tr (fun k _ q => q.imp id (fun ⟨x, hx, e⟩ => ⟨x, hs x hx, e⟩))⟩
theorem Fr.sublist {M A : Nat → Prop} {w W : World} {bl bl' : List (Nat × Obj)} {p : World → Prop} (h : Fr M A w W bl p) (hs : bl'.Sublist bl) : Fr M A w W bl' p := Fr.sub h (fun _ hx => hs.subset hx) (h.nd.sublist hs)
theorem Fr.front {M A : Nat → Prop} {w W : World} {bl bl' : List (Nat × Obj)} {p : World → Prop} {g : Nat} {o : Obj} (h : Fr M A w W bl p) (ht : Take bl g o bl') : Fr M A w W ((g, o) :: bl') p :=
  Fr.sub h (fun x hx => ht.perm.mem_iff.2 hx) (Go.Proofs.YtbmfgcekglgliaaGreatKr.nd_perm ht.perm h.nd)
theorem Fr.only {M A : Nat → Prop} {w W : World} {bl bl' : List (Nat × Obj)} {p q : World → Prop} {g : Nat} {o : Obj} (h : Fr M A w W bl p) (ha : At bl g o o bl') (hp : ∀ W, p W → q W) : Frs M A w [(g, o)] q W :=
  (Fr.sub h (fun x hx => by rw [List.mem_singleton.1 hx]; exact ha.mem) (List.pairwise_singleton _ _)).imp hp
section
variable {P : Program} {ops : Array Oper} {Q : Exit → Act → World → Prop} {S : World → Prop} {ds : List Nat} {n i j k : Nat} {dn : List Nat} {a : Act} {w : World} {o oi oj ok : Oper} {rest ri rj rk : List (Nat × Oper)} {v : Value}
end
section
variable {P : Program} {ops : Array Oper} {Q : Exit → Act → World → Prop} {ds : List Nat} {n i : Nat} {dn : List Nat} {a : Act} {W : World} {o : Oper} {rest : List (Nat × Oper)} {v : Value} {M A M0 A0 : Nat → Prop} {w w0 : World} {bl bl' bl0 : List (Nat × Obj)} {p p0 : World → Prop}
end
end Go.Proofs.YtbmfgcekglgliaaGreatRz

namespace Go.Proofs.YtbmfgcekglgliaaGreat.G
open Go.RowKit Go.Proofs.YtbmfgcekglgliaaGreatW.PrintWords Go.Proofs.YtbmfgcekglgliaaGreatW.PrintLast Go.Proofs.YtbmfgcekglgliaaGreatW.PrintMore Go.Proofs.YtbmfgcekglgliaaGreatPl Go.Proofs.YtbmfgcekglgliaaGreatEm Go.Proofs.YtbmfgcekglgliaaGreatKr Go.Proofs.YtbmfgcekglgliaaGreatRz Go.Proofs.YtbmfgcekglgliaaGreat.X
set_option linter.unusedVariables false
set_option linter.unusedSimpArgs false
theorem Beat_to (p : Par) (me : Int) (s : St) (A : Option Addr) (c g : Nat) (x : Inp) (Ah : Option Addr) (ch : Nat) (Ax : Option Addr) (ct : Nat) (w : World) (U : St) (hU : beatS p me s x = U) (hg : w.heap[g]? = some (.cells #[.int .i64 p.N, .int .i64 p.F, .int .i64 p.D, .int .i64 p.Be, .int .i64 p.Rho, .int .i64 p.De, .int .i64 p.Ji, .int .i64 p.Eps, .int .i64 p.Mu, .int .i64 p.Ho, .int .i64 p.Pu, .int .i64 p.Se, .int .i64 s.lo, .int .i64 s.hi, .int .i64 s.time, .bool s.set, .int .i64 s.held, .int .i64 s.hops, .bool s.good, .slice A s.tab.length c, .int .i64 s.st, .int .i64 s.sn, .int .i64 s.life, .int .i64 me] 41 (0, 0))) (hr : Tr (fun k => k = g) w (pR Ah x.heard Ax x.tab A s.tab)) (hl : x.heard.length ≤ 4096) (hlt : x.tab.length ≤ 4096) (hls : s.tab.length ≤ 4096) :
    Calls Tryz.prog 13 #[.pointer (some ⟨g, 0, none⟩), .agg #[.int .i64 x.ticks, .slice Ah x.heard.length ch, .bool x.ref, .int .i64 x.reading, .bool x.given, .slice Ax x.tab.length ct]] w fun e w' => ∃ A1 c1 A2 c2, e = .returned (.agg #[.int .i64 1, .int .i64 me, .int .i64 U.lo, .int .i64 U.hi, .int .i64 U.held, .int .i64 U.hops, .bool U.good, .bool (rdB p x), .int .i64 (snP p x).1, .int .i64 (snP p x).2, .int .i64 (pulseS p U), .int .i64 U.st, .int .i64 U.sn, .slice A2 U.tab.length c2]) ∧ w'.heap[g]? = some (.cells #[.int .i64 p.N, .int .i64 p.F, .int .i64 p.D, .int .i64 p.Be, .int .i64 p.Rho, .int .i64 p.De, .int .i64 p.Ji, .int .i64 p.Eps, .int .i64 p.Mu, .int .i64 p.Ho, .int .i64 p.Pu, .int .i64 p.Se, .int .i64 U.lo, .int .i64 U.hi, .int .i64 U.time, .bool U.set, .int .i64 U.held, .int .i64 U.hops, .bool U.good, .slice A1 U.tab.length c1, .int .i64 U.st, .int .i64 U.sn, .int .i64 U.life, .int .i64 me] 41 (0, 0)) ∧ w'.ownsRow w.heap.size 58 2 (.slice A1 U.tab.length c1) U.tab.length (flL U.tab) ∧ w'.ownsRow w.heap.size 58 2 (.slice A2 U.tab.length c2) U.tab.length (flL U.tab) ∧ (∀ a1 a2, A1 = some a1 → A2 = some a2 → a1.block ≠ a2.block) ∧ Chg (fun k => k = g) w w' := by
  subst hU
  exact Beat_calls p me s A c g x Ah ch Ax ct w hg hr hl hlt hls
theorem New_to (p : Par) (me : Int) (s : St) (A : Option Addr) (c : Nat) (w : World) (z : St) (hz : saneS p.D s = z) (hr : Kd.C k58 w A s.tab.length s.tab) (hl : s.tab.length ≤ 4096) :
    Calls Tryz.prog 7 #[.agg #[.int .i64 p.N, .int .i64 p.F, .int .i64 p.D, .int .i64 p.Be, .int .i64 p.Rho, .int .i64 p.De, .int .i64 p.Ji, .int .i64 p.Eps, .int .i64 p.Mu, .int .i64 p.Ho, .int .i64 p.Pu, .int .i64 p.Se], .int .i64 me, .agg #[.int .i64 s.lo, .int .i64 s.hi, .int .i64 s.time, .bool s.set, .int .i64 s.held, .int .i64 s.hops, .bool s.good, .slice A s.tab.length c, .int .i64 s.st, .int .i64 s.sn, .int .i64 s.life]] w fun e w' => ∃ g A' c', e = .returned (.pointer (some ⟨g, 0, none⟩)) ∧ w.heap.size ≤ g ∧ w'.heap[g]? = some (.cells #[.int .i64 p.N, .int .i64 p.F, .int .i64 p.D, .int .i64 p.Be, .int .i64 p.Rho, .int .i64 p.De, .int .i64 p.Ji, .int .i64 p.Eps, .int .i64 p.Mu, .int .i64 p.Ho, .int .i64 p.Pu, .int .i64 p.Se, .int .i64 z.lo, .int .i64 z.hi, .int .i64 z.time, .bool z.set, .int .i64 z.held, .int .i64 z.hops, .bool z.good, .slice A' z.tab.length c', .int .i64 z.st, .int .i64 z.sn, .int .i64 z.life, .int .i64 me] 41 (0, 0)) ∧ w'.ownsRow w.heap.size 58 2 (.slice A' z.tab.length c') z.tab.length (flL z.tab) ∧ (∀ ad, A' = some ad → ad.block ≠ g) ∧ Below w.heap.size w w' := by
  subst hz
  exact New_calls p me s A c w hr hl
theorem own_C {W : World} {b n c : Nat} {A : Option Addr} {l : List Lp} (h : W.ownsRow b 58 2 (.slice A n c) n (flL l)) (hn : l.length = n) : Kd.C k58 W A n l := by
  obtain ⟨A2, c2, e, _, h4, _⟩ := row_C h hn
  injection e with e1 e2 e3
  rw [e1]
  exact h4
theorem great_no {n : Nat} {y : InC} (h : greatP n [y] = false) : n ≤ 128 ∧ y.x.heard.length ≤ 40 ∧ y.x.tab.length ≤ 128 := by
  unfold greatP greatX at h
  simp only [Bool.or_eq_false_iff, List.any_cons, List.any_nil, decide_eq_false_iff_not] at h
  omega
end Go.Proofs.YtbmfgcekglgliaaGreat.G

namespace Go.Proofs.YtbmfgcekglgliaaGreat.G
open Go.RowKit Go.Proofs.YtbmfgcekglgliaaGreatW.PrintWords Go.Proofs.YtbmfgcekglgliaaGreatW.PrintLast Go.Proofs.YtbmfgcekglgliaaGreatW.PrintMore Go.Proofs.YtbmfgcekglgliaaGreatPl Go.Proofs.YtbmfgcekglgliaaGreatEm Go.Proofs.YtbmfgcekglgliaaGreatKr Go.Proofs.YtbmfgcekglgliaaGreatRz Go.Proofs.YtbmfgcekglgliaaGreat.X
set_option linter.unusedVariables false
set_option linter.unusedSimpArgs false
theorem RBeat_to (p : Par) (me : Int) (s : St) (A : Option Addr) (c : Nat) (x : Inp) (Ah : Option Addr) (ch : Nat) (Ax : Option Addr) (ct : Nat) (w : World) (U : St) (hU : beatS p me s x = U) (hr : Tr (fun _ => False) w (pR Ah x.heard Ax x.tab A s.tab)) (hl : x.heard.length ≤ 4096) (hlt : x.tab.length ≤ 4096) (hls : s.tab.length ≤ 4096) :
    Calls Tryz.prog 14 #[.agg #[.int .i64 p.N, .int .i64 p.F, .int .i64 p.D, .int .i64 p.Be, .int .i64 p.Rho, .int .i64 p.De, .int .i64 p.Ji, .int .i64 p.Eps, .int .i64 p.Mu, .int .i64 p.Ho, .int .i64 p.Pu, .int .i64 p.Se], .int .i64 me, .agg #[.int .i64 s.lo, .int .i64 s.hi, .int .i64 s.time, .bool s.set, .int .i64 s.held, .int .i64 s.hops, .bool s.good, .slice A s.tab.length c, .int .i64 s.st, .int .i64 s.sn, .int .i64 s.life], .agg #[.int .i64 x.ticks, .slice Ah x.heard.length ch, .bool x.ref, .int .i64 x.reading, .bool x.given, .slice Ax x.tab.length ct]] w fun e w' => ∃ A1 c1 A2 c2, e = .returned (.tuple #[.agg #[.int .i64 U.lo, .int .i64 U.hi, .int .i64 U.time, .bool U.set, .int .i64 U.held, .int .i64 U.hops, .bool U.good, .slice A1 U.tab.length c1, .int .i64 U.st, .int .i64 U.sn, .int .i64 U.life], .agg #[.int .i64 1, .int .i64 me, .int .i64 U.lo, .int .i64 U.hi, .int .i64 U.held, .int .i64 U.hops, .bool U.good, .bool (rdB p x), .int .i64 (snP p x).1, .int .i64 (snP p x).2, .int .i64 (pulseS p U), .int .i64 U.st, .int .i64 U.sn, .slice A2 U.tab.length c2]]) ∧ w'.ownsRow w.heap.size 58 2 (.slice A1 U.tab.length c1) U.tab.length (flL U.tab) ∧ w'.ownsRow w.heap.size 58 2 (.slice A2 U.tab.length c2) U.tab.length (flL U.tab) ∧ Below w.heap.size w w' := by
  subst hU
  exact RBeat_calls p me s A c x Ah ch Ax ct w hr hl hlt hls
theorem beatS_tab (p : Par) (me : Int) (s : St) (x : Inp) : (beatS p me s x).tab.length ≤ x.tab.length ∨ (beatS p me s x).tab.length ≤ s.tab.length := by
  show (saneS p.D (nextS p me s x)).tab.length ≤ _ ∨ (saneS p.D (nextS p me s x)).tab.length ≤ _
  have h := saneS_tab p.D (nextS p me s x)
  cases hg : x.given
  · exact .inr (Nat.le_trans h (by show (if x.given = true then x.tab else s.tab).length ≤ _; rw [hg]; exact Nat.le_refl _))
  · exact .inl (Nat.le_trans h (by show (if x.given = true then x.tab else s.tab).length ≤ _; rw [hg]; exact Nat.le_refl _))
def TabH (W : World) (h : Hd) : Prop := ∃ t : List Lp, t.length = h.n ∧ Kd.C k58 W h.A h.n t
end Go.Proofs.YtbmfgcekglgliaaGreat.G

namespace Go.Proofs.YtbmfgcekglgliaaGreatRz
open Go.RowKit Go.Proofs.YtbmfgcekglgliaaGreatW.PrintWords Go.Proofs.YtbmfgcekglgliaaGreatW.PrintLast Go.Proofs.YtbmfgcekglgliaaGreatW.PrintMore
open Go.Proofs.YtbmfgcekglgliaaGreatEm (Fr Chg At Of Tr Keep Frs)
set_option linter.unusedVariables false
def ldT (c1 c2 a1 a2 : Nat) (dn : List Nat) (k : Nat) (x y : Bool) : List Nat := (if y then [a2] else []) ++ ((if x then [a1] else []) ++ ((if k = 0 then [] else if k = 1 then [c1] else [c2, c1]) ++ dn))
def rdT (c1 c2 a1 a2 : Nat) (k : Nat) (x y : Bool) : List Nat := (if k = 0 then [c1] else if k = 1 then [c2] else []) ++ ((if x then [] else [a1]) ++ (if y then [] else [a2]))
theorem rdT_mem {c1 c2 a1 a2 k i : Nat} {x y : Bool} (hi : i ∈ rdT c1 c2 a1 a2 k x y) : (k = 0 ∧ i = c1) ∨ (k = 1 ∧ i = c2) ∨ (x = false ∧ i = a1) ∨ (y = false ∧ i = a2) := by
  unfold rdT at hi
  rw [List.mem_append, List.mem_append] at hi
  rcases hi with hi | hi | hi
  · split at hi
    · rename_i h; exact .inl ⟨h, List.mem_singleton.1 hi⟩
    · split at hi
      · rename_i h; exact .inr (.inl ⟨h, List.mem_singleton.1 hi⟩)
      · cases hi
  · cases x
    · exact .inr (.inr (.inl ⟨rfl, List.mem_singleton.1 (by simpa using hi)⟩))
    · simp at hi
  · cases y
    · exact .inr (.inr (.inr ⟨rfl, List.mem_singleton.1 (by simpa using hi)⟩))
    · simp at hi
theorem rdT_ne {c1 c2 a1 a2 k : Nat} {x y : Bool} (hk : k ≤ 2) (hn : ¬ (k = 2 ∧ x = true ∧ y = true)) : rdT c1 c2 a1 a2 k x y ≠ [] := by
  unfold rdT
  rcases (by omega : k = 0 ∨ k = 1 ∨ k = 2) with rfl | rfl | rfl
  · simp
  · simp
  · cases x
    · simp
    · cases y
      · simp
      · exact absurd ⟨rfl, rfl, rfl⟩ hn
section
variable {P : Program} {ops : Array Oper} {Q : Exit → Act → World → Prop} {S : World → Prop} {ds : List Nat} {n c1 c2 a1 a2 t : Nat} {dn : List Nat} {M A : Nat → Prop} {w W : World} {bl0 : List (Nat × Obj)} {p : World → Prop} {oc1 oc2 oa1 oa2 : Oper} {Ac : Value → Value → Value → Value → Act} {u1 u2 x0 y0 : Value} {z1 z2 : Array Value} {t1 t2 : TypeId} {R1 : Value → List (Nat × Obj) → Prop} {R2 : Value → Value → List (Nat × Obj) → Prop}
def ptrT (g : Nat) : Value := .pointer (some ⟨g, 0, none⟩)
def StT (u1 u2 : Value) (bl0 : List (Nat × Obj)) (R1 : Value → List (Nat × Obj) → Prop) (R2 : Value → Value → List (Nat × Obj) → Prop) (k : Nat) (v1 v2 : Value) (bl : List (Nat × Obj)) : Prop :=
  (k = 0 → v1 = u1 ∧ v2 = u2 ∧ bl = bl0) ∧ (k = 1 → v2 = u2 ∧ R1 v1 bl) ∧ (k = 2 → R2 v1 v2 bl)
def ExT (x0 y0 : Value) (o1 o2 : Obj) (x y : Bool) (X Y : Value) (E : List (Nat × Obj)) : Prop :=
  ∃ e1 e2 : List (Nat × Obj), E.Perm (e1 ++ e2) ∧ (x = false → X = x0 ∧ e1 = []) ∧ (x = true → ∃ g, X = ptrT g ∧ e1 = [(g, o1)]) ∧ (y = false → Y = y0 ∧ e2 = []) ∧ (y = true → ∃ g, Y = ptrT g ∧ e2 = [(g, o2)])
theorem Fr.perm {bl bl' : List (Nat × Obj)} (h : Fr M A w W bl p) (hp : bl.Perm bl') : Fr M A w W bl' p := Fr.sub h (fun x hx => hp.mem_iff.2 hx) (Go.Proofs.YtbmfgcekglgliaaGreatKr.nd_perm hp h.nd)
theorem wpOp_one {i : Nat} {o : Oper} {K : Act → World → Prop} {a : Act} (ho : ops[i]? = some o) (hw : Region.wanted o (yielded ops a.tmps) = true) (h : Oper.wp P o a W K Q) : wpOp P ops Q i K a W := by
  unfold Go.wpOp
  simp only [ho, hw, if_true]
  exact .inl h
theorem wp_new {o : Oper} {a : Act} {t : TypeId} {cs : Array Value} {bl : List (Nat × Obj)} (H : Fr M A w W bl p) (hr : (execOp a.eval o).run P W = .ok (.value (ptrT W.heap.size)) (W.alloc (.cells cs t (0, 0)))) {K : Act → World → Prop}
    (h : ∀ g w1, Fr M A w w1 ((g, .cells cs t (0, 0)) :: bl) p → K (a.put o.dst (ptrT g)) w1) : Oper.wp P o a W K Q := by
  unfold Oper.wp
  rw [hr]
  exact h _ _ (H.alloc rfl (blk_new W (.cells cs t (0, 0))) (below_alloc (Below.refl _ _) _))
def acT (a : Act) (N1 N2 N3 N4 : Tmp) (v1 v2 X Y : Value) : Act := (((a.put (some N1) v1).put (some N2) v2).put (some N3) X).put (some N4) Y
end
end Go.Proofs.YtbmfgcekglgliaaGreatRz

namespace Go.Proofs.YtbmfgcekglgliaaGreat.G
open Go.RowKit Go.Proofs.YtbmfgcekglgliaaGreatW.PrintWords Go.Proofs.YtbmfgcekglgliaaGreatW.PrintLast Go.Proofs.YtbmfgcekglgliaaGreatW.PrintMore Go.Proofs.YtbmfgcekglgliaaGreatPl Go.Proofs.YtbmfgcekglgliaaGreatEm Go.Proofs.YtbmfgcekglgliaaGreatKr Go.Proofs.YtbmfgcekglgliaaGreatRz Go.Proofs.YtbmfgcekglgliaaGreat.X
set_option linter.unusedVariables false
set_option linter.unusedSimpArgs false
def RowX (e : TypeId) (sz : Nat) (A : Option Addr) (n c : Nat) (xs : List Value) (E : List (Nat × Obj)) : Prop :=
  xs.length = n * sz ∧ ((A = none ∧ n = 0 ∧ c = 0 ∧ E = []) ∨
    ∃ g cur, A = some ⟨g, 0, none⟩ ∧ E = [(g, .cells cur e (0, 0))] ∧ n ≤ c ∧ c ≤ maxLen ∧ cur.size = c * sz ∧ cur.toList.take (n * sz) = xs)
theorem rowX_out {W : World} {b : Nat} {e : TypeId} {sz n c : Nat} {A : Option Addr} {xs : List Value} (h : W.ownsRow b e sz (.slice A n c) n xs) : ∃ E, RowX e sz A n c xs E ∧ ∀ x, x ∈ E → W.heap[x.1]? = some x.2 ∧ b ≤ x.1 ∧ ∃ ad, A = some ad ∧ ad.block = x.1 := by
  rcases h.2 with ⟨h1, h2⟩ | ⟨g, cap, cur, h1, h2, h3, h4, h5, h6, h7⟩
  · injection h1 with e1 e2 e3
    exact ⟨[], ⟨h.1, .inl ⟨e1, h2, e3, rfl⟩⟩, fun x hx => by cases hx⟩
  · injection h1 with e1 e2 e3
    subst e1 e3
    refine ⟨_, ⟨h.1, .inr ⟨g, cur, rfl, rfl, h4, h5, h6, h7⟩⟩, fun x hx => ?_⟩
    rw [List.mem_singleton.1 hx]
    exact ⟨h3, h2, _, rfl, rfl⟩
theorem rowX_in {W : World} {b : Nat} {e : TypeId} {sz n c : Nat} {A : Option Addr} {xs : List Value} {E : List (Nat × Obj)} (h : RowX e sz A n c xs E) (hE : ∀ x, x ∈ E → W.heap[x.1]? = some x.2 ∧ b ≤ x.1) : W.ownsRow b e sz (.slice A n c) n xs := by
  rcases h.2 with ⟨rfl, rfl, rfl, rfl⟩ | ⟨g, cur, rfl, rfl, h3, h4, h5, h6⟩
  · exact ⟨h.1, .inl ⟨rfl, rfl⟩⟩
  · have := hE _ (List.mem_singleton.2 rfl)
    exact ⟨h.1, .inr ⟨g, c, cur, rfl, this.2, this.1, h3, h4, h5, h6⟩⟩
theorem Fr.callE {M A : Nat → Prop} {w W W1 : World} {bl : List (Nat × Obj)} {p : World → Prop} {e : TypeId} {sz n c : Nat} {Ao : Option Addr} {xs : List Value} (h : Fr M A w W bl p) (hB : Below W.heap.size W W1) (ho : W1.ownsRow W.heap.size e sz (.slice Ao n c) n xs) : ∃ E, RowX e sz Ao n c xs E ∧ Fr M A w W1 (E ++ bl) p := by
  obtain ⟨E, hE, h1⟩ := rowX_out ho
  refine ⟨E, hE, ?_⟩
  rcases hE.2 with ⟨-, -, -, rfl⟩ | ⟨g, cur, -, rfl, -⟩
  · exact h.call hB
  · have := h1 _ (List.mem_singleton.2 rfl)
    exact Fr.fresh h this.2.1 this.1 hB
theorem Fr.turnFresh {M A : Nat → Prop} {w W W1 : World} {bl bl' : List (Nat × Obj)} {p q : World → Prop} {g : Nat} {old new : Obj} {g4 : Nat} {ob : Obj} (h : Fr M A w W bl p) (ha : At bl g old new bl') (hb : W1.heap[g]? = some new) (hc : Chg (fun k => k = g) W W1) (hg : W.heap.size ≤ g4) (h4 : W1.heap[g4]? = some ob) : Fr M A w W1 ((g4, ob) :: bl') p := by
  have H2 := h.turn ha hb hc
  refine ⟨H2.av, H2.chg, ?_, ?_, ?_⟩
  · intro x hx
    rcases List.mem_cons.1 hx with rfl | hx
    · exact ⟨h4, .inl (Nat.le_trans h.chg.size hg)⟩
    · exact H2.blk x hx
  · refine List.Pairwise.cons ?_ H2.nd
    intro x hx e
    have h5 : Of bl x.1 := (ha.of x.1).1 ⟨x, hx, rfl⟩
    have := h.avs x.1 (.inr h5)
    have e' : g4 = x.1 := e
    omega
  · refine fun W' k => h.tr W' (fun j hj hl => (k j (fun q => ?_) (by have := hc.size; omega)).trans (hc.block j hl (fun e => hj (.inr ⟨_, ha.mem, e.symm⟩))))
    rcases q with q | ⟨x, hx, e⟩
    · exact hj (.inl q)
    · rcases List.mem_cons.1 hx with rfl | hx
      · have e' : g4 = j := e
        omega
      · exact hj (.inr ((ha.of j).1 ⟨x, hx, e⟩))
theorem Fr.turnRowE {M A : Nat → Prop} {w W W1 : World} {bl bl' : List (Nat × Obj)} {p : World → Prop} {g : Nat} {old new : Obj} {e : TypeId} {sz n c m d : Nat} {A1 A2 : Option Addr} {xs ys : List Value} (h : Fr M A w W bl p) (ha : At bl g old new bl') (hb : W1.heap[g]? = some new) (hc : Chg (fun k => k = g) W W1) (ho : W1.ownsRow W.heap.size e sz (.slice A1 n c) n xs) (ho' : W1.ownsRow W.heap.size e sz (.slice A2 m d) m ys) (hne : ∀ a1 a2, A1 = some a1 → A2 = some a2 → a1.block ≠ a2.block) : ∃ E, RowX e sz A2 m d ys E ∧ Fr M A w W1 (E ++ bl') (fun W => p W ∧ W.ownsRow w.heap.size e sz (.slice A1 n c) n xs) := by
  obtain ⟨E, hE, h1⟩ := rowX_out ho'
  refine ⟨E, hE, ?_⟩
  rcases hE.2 with ⟨-, -, -, rfl⟩ | ⟨g4, cur, e4, rfl, -⟩
  · exact Fr.turnRow h ha hb hc ho
  · have h5 := h1 _ (List.mem_singleton.2 rfl)
    refine (Fr.turnFresh (q := p) h ha hb hc h5.2.1 h5.1).and (Tr_own ho h.chg.size (fun k ad hk hA => ?_))
    rcases hk with hk | ⟨x, hx, e1⟩
    · have := (own_lo ho ad hA).1
      have := h.av k hk
      have := h.chg.size
      omega
    · rcases List.mem_cons.1 hx with rfl | hx
      · have e2 : g4 = k := e1
        have := hne ad _ hA e4
        rw [← e2]
        exact fun e3 => this e3.symm
      · have := (own_lo ho ad hA).1
        have h6 : Of bl k := (ha.of k).1 ⟨x, hx, e1⟩
        have := h.avs k (.inr h6)
        omega
theorem Fr.inP {A : Nat → Prop} {w W : World} {bl E : List (Nat × Obj)} {p : World → Prop} {e : TypeId} {sz n c : Nat} {Ao : Option Addr} {xs : List Value} (h : Fr (fun _ => False) A w W (E ++ bl) p) (hE : RowX e sz Ao n c xs E) : Fr (fun _ => False) A w W bl (fun W => p W ∧ W.ownsRow w.heap.size e sz (.slice Ao n c) n xs) := by
  have ho : W.ownsRow w.heap.size e sz (.slice Ao n c) n xs := rowX_in hE (fun x hx => by
    have := h.blk x (List.mem_append_left _ hx)
    exact ⟨this.1, this.2.resolve_right id⟩)
  rcases hE.2 with ⟨rfl, -, -, rfl⟩ | ⟨g4, cur, rfl, rfl, -⟩
  · exact Fr.and h (Tr_own ho (Nat.le_refl _) (fun k ad hk hA => by cases hA))
  · refine (Fr.drop h).and (Tr_own ho (Nat.le_refl _) (fun k ad hk hA => ?_))
    cases hA
    rcases hk with hk | ⟨x, hx, e1⟩
    · have := h.av k hk
      have h2 := (own_lo ho _ rfl).1
      exact fun e => by
        have e' : k = g4 := e
        have h2' : w.heap.size ≤ g4 := h2
        omega
    · have := (List.pairwise_cons.1 h.nd).1 x hx
      exact fun e => this (by rw [e1]; exact e.symm)
theorem Fr.suf {M A : Nat → Prop} {w W : World} {bl : List (Nat × Obj)} {p : World → Prop} : ∀ {E : List (Nat × Obj)}, Fr M A w W (E ++ bl) p → Fr M A w W bl p
  | [], h => h
  | _ :: _, h => Fr.suf (Fr.drop h)
theorem Fr.swap {M A : Nat → Prop} {w W : World} {E F bl : List (Nat × Obj)} {p : World → Prop} (h : Fr M A w W (E ++ (F ++ bl)) p) : Fr M A w W (F ++ (E ++ bl)) p := Fr.perm h (List.perm_append_comm_assoc E F bl)
theorem add_at (g j : Nat) : ((⟨g, 0, none⟩ : Addr).add j) = ⟨g, j, none⟩ := by
  unfold Addr.add
  split
  · rename_i h0; rw [h0]
  · simp
section
variable {P : Program} {ops : Array Oper} {rest : List Oper} {o : Oper} {a : Act} {Q : Exit → Act → World → Prop} {M A : Nat → Prop} {w W : World} {bl : List (Nat × Obj)} {p : World → Prop}
theorem fr_slot {cs : Array Value} {e : TypeId} {g j : Nat} (H : Fr M A w W ((g, .cells cs e (0, 0)) :: bl) p) {t : TypeId} {x v : Operand} (ho : o.op = .store t x v) (hN : o.dst = none) (hgd : o.guard = none) {u : Value}
    (hp : a.eval x = .pointer (some ((⟨g, 0, none⟩ : Addr).add j))) (hv : a.eval v = u) (hs : j + u.cells.size ≤ cs.size) (ht : (P.info? t).map (·.size) = some u.cells.size) (h1 : ∀ q ∈ u.cells.toList, q.oneCell' = true)
    (h : ∀ cs' w1, cs'.size = cs.size → Fr M A w w1 ((g, .cells cs' e (0, 0)) :: bl) p → wpList P ops Q rest a w1) : wpList P ops Q (o :: rest) a W := by
  rw [add_at] at hp
  refine fr_set H ho hN hgd (cs := (cs.toList.take j ++ u.cells.toList ++ cs.toList.drop (j + u.cells.size)).toArray) hp hv At.head hs rfl ht h1 (fun w1 H1 => h _ w1 ?_ H1)
  simp only [List.size_toArray, List.length_append, List.length_take, List.length_drop, Array.length_toList]
  omega
theorem fr_copy {x0 : Nat} {e : TypeId} (H : Fr (fun _ => False) A w W ((x0, .cells #[] e (0, 0)) :: bl) p) (hgd : o.guard = none) (s x : Operand) (t : TypeId)
    (ho : o.op = .call { callee := .builtin .append, args := #[s, x], argTypes := #[t, t] })
    (i : TypeInfo) (z : Value) (size bytes : Nat) (ht : P.underlying t = some (.slice e)) (hi : P.info? e = some i) (hz : i.zero = some z)
    (hsize : i.size = size) (hby : i.bytes = bytes) (hzs : z.cells.size = size) (hsz : 0 < size) (hs : a.eval s = .slice (some ⟨x0, 0, none⟩) 0 0)
    (Ao : Option Addr) (m c : Nat) (news : List Value) (hx : a.eval x = .slice Ao m c) (hl : news.length = m * size) (hnews : ∀ ad, Ao = some ad → ∀ j u, news[j]? = some u → W.cell? (ad.add j) = some u) (hnone : Ao = none → m = 0) (h1 : ∀ u ∈ news, u.oneCell' = true)
    (h63 : m ≤ maxLen) (hbytes : m * bytes ≤ 140737488355328)
    (hrun : a.eval x = .slice none 0 c → (execOp a.eval o).run P W = .ok (.value (.slice (some ⟨x0, 0, none⟩) 0 0)) W)
    (h : ∀ A' c' w1, Fr (fun _ => False) A w w1 bl (fun W => p W ∧ W.ownsRow w.heap.size e size (.slice A' m c') m news) → wpList P ops Q rest (a.put o.dst (.slice A' m c')) w1) :
    wpList P ops Q (o :: rest) a W := by
  have hb := H.blk _ List.mem_cons_self
  have hlo : w.heap.size ≤ x0 := hb.2.resolve_right id
  have hown := own_empty (b := w.heap.size) (sz := size) hb.1 hlo
  have hnd := (List.pairwise_cons.1 H.nd).1
  cases Ao with
  | none =>
    have hm := hnone rfl
    subst hm
    have hn : news = [] := List.eq_nil_of_length_eq_zero (by rw [hl]; omega)
    subst hn
    refine wpList_plain hgd fun K hK => ?_
    unfold Oper.wp
    rw [hrun hx]
    refine hK _ _ (h _ 0 _ ((Fr.drop H).and (Tr_own hown (Nat.le_refl _) (fun k ad hk hA => ?_))))
    cases hA
    rcases hk with hk | ⟨y, hy, e1⟩
    · have := H.av k hk
      exact fun e => by
        have e' : k = x0 := e
        omega
    · exact fun e => hnd y hy (by rw [e1]; exact e.symm)
  | some ad =>
    refine wpList_append_own_at _ hgd s x t ho w.heap.size e i z size bytes ht hi hz hsize hby hzs hsz _ 0 [] hs hown ad m c news hx hl (hnews ad rfl) h1 (by omega) (by rw [Nat.zero_add]; exact hbytes) H.chg.size (fun v' w' k1 k2 k3 k4 => ?_)
    obtain ⟨g9, cap, rfl, hcap, hob⟩ := own_shape2 k1 (fun e => by have := (k3.1 e).1; cases this)
    rw [hob] at k4
    rw [Nat.zero_add, List.nil_append] at k1
    have hx0 : x0 < w'.heap.size := Nat.lt_of_lt_of_le (Go.Proofs.YtbmfgcekglgliaaGreatEm.obj_lt hb.1) k2.size
    have H1 := H.turn (new := w'.heap[x0]) At.head (Array.getElem?_eq_getElem hx0) (Chg.of_grown k2 (fun k e _ => by injection e with e; exact e.symm))
    rw [Nat.zero_add]
    refine h _ cap _ ((Fr.drop H1).and (Tr_own k1 (Nat.le_refl _) (fun k ad' hk hA => ?_)))
    cases hA
    show k ≠ g9
    rcases k4 with k4 | k4
    · have e4 : g9 = x0 := by injection k4
      subst e4
      rcases hk with hk | ⟨y, hy, e1⟩
      · have := H.av k hk
        omega
      · exact fun e => hnd y hy (by rw [e1]; exact e.symm)
    · have e4 : g9 = W.heap.size := by injection k4
      have := H.avs k (hk.imp id (fun ⟨y, hy, e1⟩ => ⟨y, List.mem_cons_of_mem _ hy, e1⟩))
      omega
end
theorem encH_one' (x : Hd) : ∀ u ∈ encH x, u.oneCell' = true := by
  intro u hu
  unfold encH at hu
  simp only [List.mem_cons, List.not_mem_nil, or_false] at hu
  rcases hu with rfl | rfl | rfl | rfl | rfl | rfl | rfl | rfl | rfl | rfl | rfl | rfl | rfl | rfl | rfl <;> rfl
theorem flH_one (l : List Hd) : ∀ u ∈ flH l, u.oneCell' = true := by
  intro u hu
  obtain ⟨x, _, h⟩ := List.mem_flatMap.1 hu
  exact encH_one' x u h
theorem flH_get : ∀ (l : List Hd) (j : Nat) (u : Value), (flH l)[j]? = some u → ∃ k i, ∃ hk : k < l.length, j = k * 15 + i ∧ (encH l[k])[i]? = some u
  | [], j, u, h => by simp [flH] at h
  | x :: l, j, u, h => by
    have e : flH (x :: l) = encH x ++ flH l := rfl
    rw [e] at h
    rcases Nat.lt_or_ge j (encH x).length with g | g
    · rw [List.getElem?_append_left g] at h
      exact ⟨0, j, by simp, by omega, h⟩
    · rw [List.getElem?_append_right g] at h
      obtain ⟨k, i, hk, e1, h1⟩ := flH_get l _ u h
      refine ⟨k + 1, i, by simp; omega, ?_, by simpa using h1⟩
      rw [encH_len] at e1 g
      omega
theorem cellsH {w : World} {ad : Addr} {l : List Hd} (h : RowH w (some ad) l) : ∀ j u, (flH l)[j]? = some u → w.cell? (ad.add j) = some u := by
  intro j u hu
  obtain ⟨k, i, hk, rfl, hi⟩ := flH_get l j u hu
  obtain ⟨ad', e, hx⟩ := h k hk
  cases e
  rw [← add_add]
  exact hx i u hi
end Go.Proofs.YtbmfgcekglgliaaGreat.G

namespace Go.Proofs.YtbmfgcekglgliaaGreatRz
open Go.RowKit Go.Proofs.YtbmfgcekglgliaaGreatW.PrintWords Go.Proofs.YtbmfgcekglgliaaGreatW.PrintLast Go.Proofs.YtbmfgcekglgliaaGreatW.PrintMore
open Go.Proofs.YtbmfgcekglgliaaGreatEm (Fr Chg At Of Tr Keep Frs)
set_option linter.unusedVariables false
def ldQ (ps : List Nat) (c1 c2 a1 a2 : Nat) (dn : List Nat) (k : Nat) (x y : Bool) : List Nat := (if k = 2 then ps else []) ++ ldT c1 c2 a1 a2 dn k x y
def stQ (ps : List Nat) (ops : Array Oper) (n c1 c2 a1 a2 : Nat) (dn : List Nat) (k : Nat) (x y : Bool) : Bool :=
  (Region.ready .any ops (mk n (ldQ ps c1 c2 a1 a2 dn k x y)) == rdT c1 c2 a1 a2 k x y) &&
  ((if k = 0 then (mk n (ldQ ps c1 c2 a1 a2 dn k x y)).setIfInBounds c1 true == mk n (ldQ ps c1 c2 a1 a2 dn 1 x y) else if k = 1 then (mk n (ldQ ps c1 c2 a1 a2 dn k x y)).setIfInBounds c2 true == mk n (ldT c1 c2 a1 a2 dn 2 x y) else true) &&
  ((x || (mk n (ldQ ps c1 c2 a1 a2 dn k x y)).setIfInBounds a1 true == mk n (ldQ ps c1 c2 a1 a2 dn k true y)) && (y || (mk n (ldQ ps c1 c2 a1 a2 dn k x y)).setIfInBounds a2 true == mk n (ldQ ps c1 c2 a1 a2 dn k x true))))
def twoQ (ps : List Nat) (ops : Array Oper) (n c1 c2 a1 a2 : Nat) (dn : List Nat) : Bool := [0, 1, 2].all fun k => [true, false].all fun x => [true, false].all fun y => (k == 2 && x && y) || stQ ps ops n c1 c2 a1 a2 dn k x y
theorem twoQ_at {ps : List Nat} {ops : Array Oper} {n c1 c2 a1 a2 : Nat} {dn : List Nat} (h : twoQ ps ops n c1 c2 a1 a2 dn = true) {k : Nat} {x y : Bool} (hk : k ≤ 2) (hn : ¬ (k = 2 ∧ x = true ∧ y = true)) : stQ ps ops n c1 c2 a1 a2 dn k x y = true := by
  unfold twoQ at h
  rw [List.all_eq_true] at h
  have h1 := h k (by rcases (by omega : k = 0 ∨ k = 1 ∨ k = 2) with rfl | rfl | rfl <;> simp)
  rw [List.all_eq_true] at h1
  have h2 := h1 x (by cases x <;> simp)
  rw [List.all_eq_true] at h2
  have h3 := h2 y (by cases y <;> simp)
  rw [Bool.or_eq_true] at h3
  rcases h3 with h3 | h3
  · simp at h3
    exact absurd ⟨h3.1.1, h3.1.2, h3.2⟩ hn
  · exact h3
section
variable {P : Program} {ops : Array Oper} {Q : Exit → Act → World → Prop} {S : World → Prop} {ds : List Nat} {n c1 c2 a1 a2 t : Nat} {dn : List Nat} {M A : Nat → Prop} {w W : World} {bl0 : List (Nat × Obj)} {p : World → Prop} {oc1 oc2 oa1 oa2 : Oper} {Ac : Nat → Value → Value → Value → Value → Act} {ps : List Nat} {d : Nat} {u1 u2 x0 y0 : Value} {z1 z2 : Array Value} {t1 t2 : TypeId} {R1 : Value → List (Nat × Obj) → Prop} {R2 : Value → Value → List (Nat × Obj) → Prop}
theorem two_calls2 (hB : twoQ ps ops n c1 c2 a1 a2 dn = true) (h1 : ops[c1]? = some oc1) (h2 : ops[c2]? = some oc2) (h3 : ops[a1]? = some oa1) (h4 : ops[a2]? = some oa2) (hne : (c1 ≠ c2 ∧ c1 ≠ a1 ∧ c1 ≠ a2) ∧ (c2 ≠ a1 ∧ c2 ≠ a2) ∧ a1 ≠ a2)
    (w1 : ∀ X Y, Region.wanted oc1 (yielded ops (Ac 0 u1 u2 X Y).tmps) = true) (w2 : ∀ v1 X Y, Region.wanted oc2 (yielded ops (Ac 1 v1 u2 X Y).tmps) = true) (w3 : ∀ k v1 v2 Y, Region.wanted oa1 (yielded ops (Ac k v1 v2 x0 Y).tmps) = true) (w4 : ∀ k v1 v2 X, Region.wanted oa2 (yielded ops (Ac k v1 v2 X y0).tmps) = true)
    (p1 : ∀ v X Y, (Ac 0 u1 u2 X Y).put oc1.dst v = Ac 1 v u2 X Y) (p2 : ∀ v1 v X Y, (Ac 1 v1 u2 X Y).put oc2.dst v = Ac 1 v1 v X Y) (p3 : ∀ k v1 v2 v Y, (Ac k v1 v2 x0 Y).put oa1.dst v = Ac k v1 v2 v Y) (p4 : ∀ k v1 v2 X v, (Ac k v1 v2 X y0).put oa2.dst v = Ac k v1 v2 X v)
    (r3 : ∀ k v1 v2 Y W, (execOp (Ac k v1 v2 x0 Y).eval oa1).run P W = .ok (.value (ptrT W.heap.size)) (W.alloc (.cells z1 t1 (0, 0)))) (r4 : ∀ k v1 v2 X W, (execOp (Ac k v1 v2 X y0).eval oa2).run P W = .ok (.value (ptrT W.heap.size)) (W.alloc (.cells z2 t2 (0, 0))))
    (s0 : ∀ E W, Fr M A w W (E ++ bl0) p → S W) (s1 : ∀ v1 bl1, R1 v1 bl1 → ∀ E W, Fr M A w W (E ++ bl1) p → S W) (s2 : ∀ v1 v2 bl2, R2 v1 v2 bl2 → ∀ E W, Fr M A w W (E ++ bl2) p → S W)
    (k1 : ∀ E W X Y (K : Act → World → Prop), Fr M A w W (E ++ bl0) p → (∀ v1 bl1 W', R1 v1 bl1 → Fr M A w W' (E ++ bl1) p → K ((Ac 0 u1 u2 X Y).put oc1.dst v1) W') → Oper.wp P oc1 (Ac 0 u1 u2 X Y) W K Q)
    (k2 : ∀ v1 bl1, R1 v1 bl1 → ∀ E W X Y (K : Act → World → Prop), Fr M A w W (E ++ bl1) p → (∀ v2 bl2 W', R2 v1 v2 bl2 → Fr M A w W' (E ++ bl2) p → K ((Ac 1 v1 u2 X Y).put oc2.dst v2) W') → Oper.wp P oc2 (Ac 1 v1 u2 X Y) W K Q)
    (hps : ∀ v1 v2 bl2, R2 v1 v2 bl2 → ∀ x y X Y W f, wpAnyLast P .any ops Q S ds f (mk n (ldQ ps c1 c2 a1 a2 dn 2 x y)) (Ac 2 v1 v2 X Y) W → wpAnyLast P .any ops Q S ds (f + d) (mk n (ldT c1 c2 a1 a2 dn 2 x y)) (Ac 1 v1 v2 X Y) W)
    (hend : ∀ v1 v2 bl2 g1 g2 W, R2 v1 v2 bl2 → Fr M A w W ((g1, .cells z1 t1 (0, 0)) :: (g2, .cells z2 t2 (0, 0)) :: bl2) p → wpAnyLast P .any ops Q S ds t (mk n (ldQ ps c1 c2 a1 a2 dn 2 true true)) (Ac 2 v1 v2 (ptrT g1) (ptrT g2)) W) :
    ∀ (m k : Nat) (x y : Bool) (v1 v2 X Y : Value) (bl E : List (Nat × Obj)) (W : World), m = (2 - k) + (if x then 0 else 1) + (if y then 0 else 1) → k ≤ 2 → StT u1 u2 bl0 R1 R2 k v1 v2 bl → ExT x0 y0 (.cells z1 t1 (0, 0)) (.cells z2 t2 (0, 0)) x y X Y E → Fr M A w W (E ++ bl) p →
      wpAnyLast P .any ops Q S ds (m + (if k = 2 then 0 else d) + t) (mk n (ldQ ps c1 c2 a1 a2 dn k x y)) (Ac k v1 v2 X Y) W := by
  intro m
  induction m with
  | zero =>
    intro k x y v1 v2 X Y bl E W hm hk hS hE H
    have hx : x = true := by
      cases x
      · rw [if_neg (by decide)] at hm; omega
      · rfl
    have hy : y = true := by
      cases y
      · rw [if_neg (c := (false = true)) (by decide)] at hm; omega
      · rfl
    have hk2 : k = 2 := by rw [hx, hy] at hm; simp at hm; omega
    subst hx hy hk2
    obtain ⟨e1, e2, hp, _, f1, _, f2⟩ := hE
    obtain ⟨g1, rfl, rfl⟩ := f1 rfl
    obtain ⟨g2, rfl, rfl⟩ := f2 rfl
    rw [if_pos rfl, Nat.add_zero, Nat.zero_add]
    exact hend v1 v2 bl g1 g2 W (hS.2.2 rfl) (Fr.perm H (hp.append_right bl))
  | succ m ih =>
    intro k x y v1 v2 X Y bl E W hm hk hS hE H
    have hn : ¬ (k = 2 ∧ x = true ∧ y = true) := by rintro ⟨rfl, rfl, rfl⟩; simp at hm
    have hst := twoQ_at hB hk hn
    unfold stQ at hst
    simp only [Bool.and_eq_true, beq_iff_eq] at hst
    obtain ⟨hr, hc, hx3, hx4⟩ := hst
    have e0 : m + 1 + (if k = 2 then 0 else d) + t = (m + (if k = 2 then 0 else d) + t) + 1 := by omega
    rw [e0]
    have hne' := rdT_ne (c1 := c1) (c2 := c2) (a1 := a1) (a2 := a2) hk hn
    refine wpAnyLast_all hr hne' (fun i hi => ?_)
    have hi' := rdT_mem hi
    rcases hi' with ⟨rfl, rfl⟩ | ⟨rfl, rfl⟩ | ⟨rfl, rfl⟩ | ⟨rfl, rfl⟩
    · obtain ⟨rfl, rfl, rfl⟩ := hS.1 rfl
      rw [if_pos rfl] at hc
      have hc := eq_of_beq hc
      refine wpOp_one h1 (w1 X Y) (k1 E W X Y _ H (fun v bl1 W' hR HF => ⟨fun _ _ => s1 v bl1 hR E W' HF, ?_⟩))
      rw [p1, hc]
      exact ih 1 x y v _ X Y bl1 E W' (by omega) (by omega) ⟨fun h => by omega, fun _ => ⟨rfl, hR⟩, fun h => by omega⟩ hE HF
    · obtain ⟨rfl, hR1⟩ := hS.2.1 rfl
      rw [if_neg (by decide), if_pos rfl] at hc
      have hc := eq_of_beq hc
      refine wpOp_one h2 (w2 v1 X Y) (k2 v1 bl hR1 E W X Y _ H (fun v bl2 W' hR HF => ⟨fun _ _ => s2 v1 v bl2 hR E W' HF, ?_⟩))
      rw [p2, hc]
      have e1 : m + (if 1 = 2 then 0 else d) + t = (m + (if 2 = 2 then 0 else d) + t) + d := by simp; omega
      rw [e1]
      exact hps v1 v bl2 hR x y X Y W' _ (ih 2 x y v1 v X Y bl2 E W' (by omega) (by omega) ⟨fun h => by omega, fun h => by omega, fun _ => hR⟩ hE HF)
    · obtain ⟨e1, e2, hp, f1, f1', f2, f2'⟩ := hE
      obtain ⟨rfl, rfl⟩ := f1 rfl
      have hx3 : (mk n (ldQ ps c1 c2 i a2 dn k false y)).setIfInBounds i true = mk n (ldQ ps c1 c2 i a2 dn k true y) := by simpa using hx3
      refine wpOp_one h3 (w3 k v1 v2 Y) (wp_new H (r3 k v1 v2 Y W) (fun g w1 HF => ⟨fun _ _ => ?_, ?_⟩))
      · have HF' : Fr M A w w1 (((g, Obj.cells z1 t1 (0, 0)) :: E) ++ bl) p := HF
        rcases (by omega : k = 0 ∨ k = 1 ∨ k = 2) with rfl | rfl | rfl
        · obtain ⟨_, _, rfl⟩ := hS.1 rfl
          exact s0 _ _ HF'
        · exact s1 _ _ (hS.2.1 rfl).2 _ _ HF'
        · exact s2 _ _ _ (hS.2.2 rfl) _ _ HF'
      · rw [p3, hx3]
        refine ih k true y v1 v2 (ptrT g) Y bl ((g, .cells z1 t1 (0, 0)) :: E) w1 (by simp at hm ⊢; omega) hk hS ⟨[(g, .cells z1 t1 (0, 0))], e2, ?_, fun h => (by cases h), fun _ => ⟨g, rfl, rfl⟩, f2, f2'⟩ HF
        exact List.Perm.cons _ (by simpa using hp)
    · obtain ⟨e1, e2, hp, f1, f1', f2, f2'⟩ := hE
      obtain ⟨rfl, rfl⟩ := f2 rfl
      have hx4 : (mk n (ldQ ps c1 c2 a1 i dn k x false)).setIfInBounds i true = mk n (ldQ ps c1 c2 a1 i dn k x true) := by simpa using hx4
      refine wpOp_one h4 (w4 k v1 v2 X) (wp_new H (r4 k v1 v2 X W) (fun g w1 HF => ⟨fun _ _ => ?_, ?_⟩))
      · have HF' : Fr M A w w1 (((g, Obj.cells z2 t2 (0, 0)) :: E) ++ bl) p := HF
        rcases (by omega : k = 0 ∨ k = 1 ∨ k = 2) with rfl | rfl | rfl
        · obtain ⟨_, _, rfl⟩ := hS.1 rfl
          exact s0 _ _ HF'
        · exact s1 _ _ (hS.2.1 rfl).2 _ _ HF'
        · exact s2 _ _ _ (hS.2.2 rfl) _ _ HF'
      · rw [p4, hx4]
        refine ih k x true v1 v2 X (ptrT g) bl ((g, .cells z2 t2 (0, 0)) :: E) w1 (by simp at hm ⊢; omega) hk hS ⟨e1, [(g, .cells z2 t2 (0, 0))], ?_, f1, f1', fun h => (by cases h), fun _ => ⟨g, rfl, rfl⟩⟩ HF
        rw [List.append_nil] at hp
        exact (List.Perm.cons _ hp).trans (List.perm_append_singleton _ _).symm
theorem wa_pure {f i : Nat} {dm : List Nat} {a : Act} {o : Oper} {v : Value} {w : World} (hi : ops[i]? = some o) (hc : anyB .any ops (mk n dm) (mk n (i :: dm)) i = true) (hQ : ∀ c a w, Q (.panic c) (a.put o.dst v) w → Q (.panic c) a w)
    (hw : Region.wanted o (yielded ops a.tmps) = true) (hy : ∀ w (K : Result Next → Prop), Hid (K (.ok (.value v) w)) → K ((execOp a.eval o).run P w)) (h : wpAnyLast P .any ops Q S ds f (mk n (i :: dm)) (a.put o.dst v) w) : wpAnyLast P .any ops Q S ds (f + 1) (mk n dm) a w :=
  pure_ (mk n (i :: dm)) hi rfl hc hQ (.inl ⟨hw, fun w => hy w (fun r => r = .ok (.value v) w) (Lib.hid rfl)⟩) rfl h
def bT (F : Value → Act → Act) (a : Act) : Bool → Value → Act
  | false, _ => a
  | true, v => F v a
def elT : Value → Nat → Value
  | .tuple xs, i => xs.getD i undef
  | _, _ => undef
theorem ro_two2 {a : Act} {rest r : List (Nat × Oper)} {rp : List (Nat × Oper)} (F : Value → Act → Act) (N1 N2 N3 N4 : Tmp) (R1 : Value → List (Nat × Obj) → Prop) (R2 : Value → Value → List (Nat × Obj) → Prop) (H : Fr M A w W bl0 p) (hB : twoQ ps ops n c1 c2 a1 a2 dn = true) (hrest : rest = (c1, oc1) :: (c2, oc2) :: (a1, oa1) :: (a2, oa2) :: (rp ++ r)) (hd : rp.length = d) (hne : (c1 ≠ c2 ∧ c1 ≠ a1 ∧ c1 ≠ a2) ∧ (c2 ≠ a1 ∧ c2 ≠ a2) ∧ a1 ≠ a2)
    (ha : acT (bT F a false u2) N1 N2 N3 N4 u1 u2 x0 y0 = a)
    (w1 : ∀ X Y, Region.wanted oc1 (yielded ops (acT (bT F a false u2) N1 N2 N3 N4 u1 u2 X Y).tmps) = true) (w2 : ∀ v1 X Y, Region.wanted oc2 (yielded ops (acT (bT F a false u2) N1 N2 N3 N4 v1 u2 X Y).tmps) = true) (w3 : ∀ b v1 v2 Y, Region.wanted oa1 (yielded ops (acT (bT F a b v2) N1 N2 N3 N4 v1 v2 x0 Y).tmps) = true) (w4 : ∀ b v1 v2 X, Region.wanted oa2 (yielded ops (acT (bT F a b v2) N1 N2 N3 N4 v1 v2 X y0).tmps) = true)
    (p1 : ∀ v X Y, (acT (bT F a false u2) N1 N2 N3 N4 u1 u2 X Y).put oc1.dst v = acT (bT F a false u2) N1 N2 N3 N4 v u2 X Y) (p2 : ∀ v1 v X Y, (acT (bT F a false u2) N1 N2 N3 N4 v1 u2 X Y).put oc2.dst v = acT (bT F a false v) N1 N2 N3 N4 v1 v X Y) (p3 : ∀ b v1 v2 v Y, (acT (bT F a b v2) N1 N2 N3 N4 v1 v2 x0 Y).put oa1.dst v = acT (bT F a b v2) N1 N2 N3 N4 v1 v2 v Y) (p4 : ∀ b v1 v2 X v, (acT (bT F a b v2) N1 N2 N3 N4 v1 v2 X y0).put oa2.dst v = acT (bT F a b v2) N1 N2 N3 N4 v1 v2 X v)
    (r3 : ∀ b v1 v2 Y W (K : Result Next → Prop), Hid (K (.ok (.value (.pointer (some ⟨W.heap.size, 0, none⟩))) (W.alloc (.cells z1 t1 (0, 0))))) → K ((execOp (acT (bT F a b v2) N1 N2 N3 N4 v1 v2 x0 Y).eval oa1).run P W)) (r4 : ∀ b v1 v2 X W (K : Result Next → Prop), Hid (K (.ok (.value (.pointer (some ⟨W.heap.size, 0, none⟩))) (W.alloc (.cells z2 t2 (0, 0))))) → K ((execOp (acT (bT F a b v2) N1 N2 N3 N4 v1 v2 X y0).eval oa2).run P W))
    (s0 : ∀ E W, Fr M A w W (E ++ bl0) p → S W) (s1 : ∀ v1 bl1, R1 v1 bl1 → ∀ E W, Fr M A w W (E ++ bl1) p → S W) (s2 : ∀ v1 v2 bl2, R2 v1 v2 bl2 → ∀ E W, Fr M A w W (E ++ bl2) p → S W)
    (k1 : ∀ E W X Y (K : Act → World → Prop), Fr M A w W (E ++ bl0) p → (∀ v1 bl1 W', R1 v1 bl1 → Fr M A w W' (E ++ bl1) p → K ((acT (bT F a false u2) N1 N2 N3 N4 u1 u2 X Y).put oc1.dst v1) W') → Oper.wp P oc1 (acT (bT F a false u2) N1 N2 N3 N4 u1 u2 X Y) W K Q)
    (k2 : ∀ v1 bl1, R1 v1 bl1 → ∀ E W X Y (K : Act → World → Prop), Fr M A w W (E ++ bl1) p → (∀ v2 bl2 W', R2 v1 v2 bl2 → Fr M A w W' (E ++ bl2) p → K ((acT (bT F a false u2) N1 N2 N3 N4 v1 u2 X Y).put oc2.dst v2) W') → Oper.wp P oc2 (acT (bT F a false u2) N1 N2 N3 N4 v1 u2 X Y) W K Q)
    (hps : (∀ x ∈ rp, ops[x.1]? = some x.2) → ∀ v1 v2 bl2, R2 v1 v2 bl2 → ∀ x y X Y W f, wpAnyLast P .any ops Q S ds f (mk n (ldQ ps c1 c2 a1 a2 dn 2 x y)) (acT (bT F a true v2) N1 N2 N3 N4 v1 v2 X Y) W → wpAnyLast P .any ops Q S ds (f + d) (mk n (ldT c1 c2 a1 a2 dn 2 x y)) (acT (bT F a false v2) N1 N2 N3 N4 v1 v2 X Y) W)
    (hend : ∀ v1 v2 bl2 g1 g2 W, R2 v1 v2 bl2 → Fr M A w W ((g1, .cells z1 t1 (0, 0)) :: (g2, .cells z2 t2 (0, 0)) :: bl2) p → RO P ops Q S ds n (ldQ ps c1 c2 a1 a2 dn 2 true true) r (acT (bT F a true v2) N1 N2 N3 N4 v1 v2 (ptrT g1) (ptrT g2)) W) : RO P ops Q S ds n dn rest a W := fun e => by
  subst hrest
  have h1 : ops[c1]? = some oc1 := e (c1, oc1) List.mem_cons_self
  have h2 : ops[c2]? = some oc2 := e (c2, oc2) (List.mem_cons_of_mem _ List.mem_cons_self)
  have h3 : ops[a1]? = some oa1 := e (a1, oa1) (List.mem_cons_of_mem _ (List.mem_cons_of_mem _ List.mem_cons_self))
  have h4 : ops[a2]? = some oa2 := e (a2, oa2) (List.mem_cons_of_mem _ (List.mem_cons_of_mem _ (List.mem_cons_of_mem _ List.mem_cons_self)))
  have e5 : ∀ x ∈ rp ++ r, ops[x.1]? = some x.2 := fun x hx => e x (List.mem_cons_of_mem _ (List.mem_cons_of_mem _ (List.mem_cons_of_mem _ (List.mem_cons_of_mem _ hx))))
  have := two_calls2 (t := r.length) (Ac := fun k v1 v2 X Y => acT (bT F a (k == 2) v2) N1 N2 N3 N4 v1 v2 X Y) (z1 := z1) (z2 := z2) (t1 := t1) (t2 := t2) hB h1 h2 h3 h4 hne w1 w2 (fun k => w3 (k == 2)) (fun k => w4 (k == 2)) p1 p2 (fun k => p3 (k == 2)) (fun k => p4 (k == 2)) (fun k v1 v2 Y W => r3 (k == 2) v1 v2 Y W (fun r => r = _) (Lib.hid rfl)) (fun k v1 v2 X W => r4 (k == 2) v1 v2 X W (fun r => r = _) (Lib.hid rfl)) s0 s1 s2 k1 k2 (hps (fun x hx => e5 x (List.mem_append_left _ hx)))
    (fun v1 v2 bl2 g1 g2 W hR hF => hend v1 v2 bl2 g1 g2 W hR hF (fun x hx => e5 x (List.mem_append_right _ hx)))
    4 0 false false u1 u2 x0 y0 bl0 [] W rfl (by decide) ⟨fun _ => ⟨rfl, rfl, rfl⟩, fun h => by omega, fun h => by omega⟩ ⟨[], [], List.Perm.refl _, fun _ => ⟨rfl, rfl⟩, fun h => (by cases h), fun _ => ⟨rfl, rfl⟩, fun h => (by cases h)⟩ H
  rw [show ((0 : Nat) == 2) = false from rfl, ha] at this
  have hl : ((c1, oc1) :: (c2, oc2) :: (a1, oa1) :: (a2, oa2) :: (rp ++ r)).length = 4 + (if 0 = 2 then 0 else d) + r.length := by rw [if_neg (by decide), ← hd]; simp only [List.length_cons, List.length_append]; omega
  rw [hl]
  exact this
end
end Go.Proofs.YtbmfgcekglgliaaGreatRz
