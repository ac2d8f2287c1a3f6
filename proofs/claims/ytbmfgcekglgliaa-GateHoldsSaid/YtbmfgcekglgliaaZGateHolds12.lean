/- Texts Gz, Rq, Gck, Gz1, Gp2, in one file, without what is not needed here. -/
import Derived.Test.YtbmfgcekglgliaaZGateHolds11
namespace Go.Proofs.Ytbmfgcekglgliaa.G
open Go.RowKit Go.Proofs.YtbmfgcekglgliaaW.PrintWords Go.Proofs.YtbmfgcekglgliaaW.PrintLast Go.Proofs.YtbmfgcekglgliaaW.PrintMore Go.Proofs.YtbmfgcekglgliaaPl Go.Proofs.YtbmfgcekglgliaaEm Go.Proofs.YtbmfgcekglgliaaKr Go.Proofs.YtbmfgcekglgliaaRz Go.Proofs.Ytbmfgcekglgliaa.X
open Go.Proofs.Ytbmfgcekglgliaa.So (srt least has srt_length)
set_option linter.unusedVariables false
set_option linter.unusedSimpArgs false
theorem Fr.fresh {M A : Nat → Prop} {w W W1 : World} {bl : List (Nat × Obj)} {p : World → Prop} {g : Nat} {ob : Obj} (h : Fr M A w W bl p) (hg : W.heap.size ≤ g) (hb : W1.heap[g]? = some ob) (hB : Below W.heap.size W W1) :
    Fr M A w W1 ((g, ob) :: bl) p := by
  refine ⟨h.av, h.chg.trans (Chg.of_below hB), ?_, ?_, ?_⟩
  · intro x hx
    rcases List.mem_cons.1 hx with rfl | hx
    · exact ⟨hb, .inl (Nat.le_trans h.chg.size hg)⟩
    · obtain ⟨h1, h2⟩ := h.blk x hx
      exact ⟨(hB.block _ (Go.Proofs.YtbmfgcekglgliaaEm.obj_lt h1)).trans h1, h2⟩
  · refine List.Pairwise.cons ?_ h.nd
    intro x hx e
    have := Go.Proofs.YtbmfgcekglgliaaEm.obj_lt (h.blk x hx).1
    have e' : g = x.1 := e
    omega
  · refine fun W' k => h.tr W' (fun j ha hj => (k j (fun q => ?_) (by have := hB.size; omega)).trans (hB.block j hj))
    rcases q with q | ⟨x, hx, e⟩
    · exact ha (.inl q)
    · rcases List.mem_cons.1 hx with rfl | hx
      · have e' : g = j := e
        omega
      · exact ha (.inr ⟨x, hx, e⟩)
theorem Fr.trAt {M A : Nat → Prop} {w W : World} {bl bl' : List (Nat × Obj)} {p : World → Prop} {g : Nat} {o : Obj} (h : Fr M A w W bl p) (ha : At bl g o o bl') : Tr (fun k => k = g) W p := Tr.less h.tr (fun k _ e => .inr ⟨_, ha.mem, e.symm⟩)
theorem Fr.freshRow {M A : Nat → Prop} {w W W1 : World} {bl : List (Nat × Obj)} {p : World → Prop} {g : Nat} {ob : Obj} {e : TypeId} {sz n c : Nat} {Ao : Option Addr} {xs : List Value} (h : Fr M A w W bl p) (hg : W.heap.size ≤ g) (hb : W1.heap[g]? = some ob) (hB : Below W.heap.size W W1)
    (ho : W1.ownsRow W.heap.size e sz (.slice Ao n c) n xs) (hne : ∀ ad, Ao = some ad → ad.block ≠ g) : Fr M A w W1 ((g, ob) :: bl) (fun W => p W ∧ W.ownsRow w.heap.size e sz (.slice Ao n c) n xs) := by
  refine (Fr.fresh h hg hb hB).and (Tr_own ho h.chg.size (fun k ad hk ha => ?_))
  have h1 := (own_lo ho ad ha).1
  rcases hk with hk | ⟨x, hx, e1⟩
  · have := h.av k hk
    have := h.chg.size
    omega
  · rcases List.mem_cons.1 hx with rfl | hx
    · have e2 : g = k := e1
      subst e2
      exact fun e3 => hne ad ha e3.symm
    · have := Go.Proofs.YtbmfgcekglgliaaEm.obj_lt (h.blk x hx).1
      rw [e1] at this
      omega
structure InC where
  x : Inp
  Ah : Option Addr
  ch : Nat
  Ax : Option Addr
  ct : Nat
def encI (y : InC) : List Value := [.int .i64 y.x.ticks, .slice y.Ah y.x.heard.length y.ch, .bool y.x.ref, .int .i64 y.x.reading, .bool y.x.given, .slice y.Ax y.x.tab.length y.ct]
def RowI (w : World) (A : Option Addr) (l : List InC) : Prop := ∀ k (hk : k < l.length), (∃ ad, A = some ad ∧ ∀ j u, (encI l[k])[j]? = some u → w.cell? ((ad.add (k * 6)).add j) = some u) ∧ RowH w l[k].Ah l[k].x.heard
theorem rowI_one {M A : Nat → Prop} {w W : World} {bl : List (Nat × Obj)} {p : World → Prop} {g : Nat} {y : InC} (H : Fr M A w W bl p) {t : TypeId} (hb : W.heap[g]? = some (.cells (encI y).toArray t (0, 0))) (hp : ∀ W, p W → RowH W y.Ah y.x.heard) : Tr (fun _ => False) W (fun W => RowI W (some ⟨g, 0, none⟩) [y]) := by
  intro W' hW k hk
  have hk0 : k = 0 := by simp at hk; exact hk
  subst hk0
  refine ⟨⟨_, rfl, ?_⟩, hp _ (H.tr W' (fun k hk hl => hW k (fun h => h) hl))⟩
  have e : W'.heap[g]? = some (.cells (encI y).toArray t (0, 0)) := (hW g (fun h => h) (Go.Proofs.YtbmfgcekglgliaaEm.obj_lt hb)).trans hb
  have := new_cells e
  intro j u hu
  have h0 : ((⟨g, 0, none⟩ : Addr).add (0 * 6)) = ⟨g, 0, none⟩ := rfl
  rw [h0]
  exact this j u hu
def greatX (x : Inp) : Bool := decide (40 < x.heard.length) || decide (128 < x.tab.length) || x.heard.any (fun h => decide (128 < h.n))
def greatP (n : Nat) (l : List InC) : Bool := decide (128 < n) || decide (12 < l.length) || l.any (fun y => greatX y.x)
theorem nat_dec {a : Nat} {n : Nat} {b : Bool} (h : decide (a < n) = b) : decide ((a : Int) < (n : Int)) = b := by rw [← h, Bool.eq_iff_iff]; simp
set_option maxRecDepth 100000 in
set_option maxHeartbeats 16000000 in
theorem great_calls (lo hi time : Int) (set : Bool) (held hops : Int) (good : Bool) (A : Option Addr) (n c : Nat) (st sn life : Int) (Ai : Option Addr) (ci : Nat) (l : List InC) (w : World) (hr : Tr (fun _ => False) w (fun W => RowI W Ai l)) (hl : l.length ≤ 9223372036854775807) (hh : ∀ y ∈ l, y.x.heard.length ≤ 9223372036854775807) :
    Calls Try.prog 8 #[.agg #[.int .i64 lo, .int .i64 hi, .int .i64 time, .bool set, .int .i64 held, .int .i64 hops, .bool good, .slice A n c, .int .i64 st, .int .i64 sn, .int .i64 life], .slice Ai l.length ci] w fun e w' => e = .returned (.bool (greatP n l)) ∧ Below w.heap.size w w' := by
  have H := Fr.start0 (M := fun _ => False) (A := fun _ => False) (w := w) (p := fun W => RowI W Ai l) (fun _ h => h.elim) hr
  obtain ⟨b1, h1⟩ : ∃ b, decide (128 < n) = b := ⟨_, rfl⟩
  obtain ⟨b2, h2⟩ : ∃ b, decide (12 < l.length) = b := ⟨_, rfl⟩
  have HG : Hid (greatP n l = (b1 || b2 || l.any (fun y => greatX y.x))) := Lib.hid (by unfold greatP; rw [h1, h2])
  have g1 : decide ((128 : Int) < (n : Int)) = b1 := nat_dec h1
  have g2 : decide ((12 : Int) < (l.length : Int)) = b2 := nat_dec h2
  obtain ⟨m, hm⟩ : ∃ m, l.length = m := ⟨_, rfl⟩
  have HM := Lib.hid hm
  have HH := Lib.hid hh
  rw [hm] at g2 hl ⊢
  clear hr hm h1 h2 hh
  go_enter Try.func8, Try.ntmps8
  cases b1 with
  | true =>
    go_wp2_with (first
      | ((with_reducible refine gate_dst (N := 2) rfl ?_); refine fr_box H rfl rfl rfl ?_; intro g2 w2 H1; clear H; have H := H1; clear H1)
      | ((with_reducible refine gate_dst (N := 10) rfl ?_); refine fr_get H rfl rfl rfl (by repeat (first | exact At.head | apply At.tail)) Try.underlying26 rfl (by simp only [List.getElem?_toArray, List.getElem?_cons_succ, List.getElem?_cons_zero]; rfl) ?_)
      | ((with_reducible refine gate_dst (N := 23) rfl ?_); refine fr_sub H (n := 6) rfl rfl rfl (by repeat (first | exact At.head | apply At.tail)) Try.underlying38 rfl (by kernel_rfl) (by simp only [List.toList_toArray, List.drop_succ_cons, List.drop_zero, List.take_succ_cons, List.take_zero]; rfl) (by rfl) ?_)
      | ((with_reducible refine gate_dst (N := 6) rfl ?_); refine fr_new H (N := 6) rfl rfl (cs := #[.int .i64 0, .slice none 0 0, .bool false, .int .i64 0, .bool false, .slice none 0 0]) (t := 38) ?hr ?_; (case hr => first | (go_simp; done) | (go_simp; rfl)); intro g6 w6 H1; clear H; have H := H1; clear H1)
      | ((with_reducible refine gate_store (t := 38) (p := 6) rfl ?_); refine fr_put H rfl rfl rfl rfl rfl (by repeat (first | exact At.head | apply At.tail)) (by rfl) (by kernel_rfl) (by simp [Value.oneCell']) ?_; intro w6_ H1; clear H; have H := H1; clear H1)
      | ((with_reducible refine gate_dst (N := 25) rfl ?_); refine fr_get H rfl rfl rfl (by repeat (first | exact At.head | apply At.tail)) Try.underlying32 rfl (by simp only [List.getElem?_toArray, List.getElem?_cons_succ, List.getElem?_cons_zero]; rfl) ?_)
      | ((with_reducible refine gate_dst (N := 30) rfl ?_); (try (refine gate_guard (by rfl) ?_; dsimp only)); refine fr_get H rfl rfl rfl (by repeat (first | exact At.head | apply At.tail)) Try.underlying26 rfl (by simp only [List.getElem?_toArray, List.getElem?_cons_succ, List.getElem?_cons_zero]; rfl) ?_)
      | ((with_reducible refine gate_dst (N := 35) rfl ?_); refine fr_get H rfl rfl rfl (by repeat (first | exact At.head | apply At.tail)) Try.underlying32 rfl (by simp only [List.getElem?_toArray, List.getElem?_cons_succ, List.getElem?_cons_zero]; rfl) ?_)
      | ((with_reducible refine gate_dst (N := 40) rfl ?_); refine fr_sub H (n := 15) rfl rfl rfl (by repeat (first | exact At.head | apply At.tail)) Try.underlying45 rfl (by kernel_rfl) (by simp only [List.toList_toArray, List.drop_succ_cons, List.drop_zero, List.take_succ_cons, List.take_zero]; rfl) (by rfl) ?_)
      | ((with_reducible refine gate_dst (N := 8) rfl ?_); refine fr_new H (N := 8) rfl rfl (cs := #[.int .i64 0, .int .i64 0, .int .i64 0, .int .i64 0, .int .i64 0, .int .i64 0, .bool false, .bool false, .int .i64 0, .int .i64 0, .int .i64 0, .int .i64 0, .int .i64 0, .slice none 0 0, .int .i64 0]) (t := 45) ?hr ?_; (case hr => first | (go_simp; done) | (go_simp; rfl)); intro g8 w8 H1; clear H; have H := H1; clear H1)
      | ((with_reducible refine gate_store (t := 45) (p := 8) rfl ?_); refine fr_put H rfl rfl rfl rfl rfl (by repeat (first | exact At.head | apply At.tail)) (by rfl) (by kernel_rfl) (by simp [Value.oneCell']) ?_; intro w8_ H1; clear H; have H := H1; clear H1)
      | ((with_reducible refine gate_dst (N := 43) rfl ?_); refine fr_get H rfl rfl rfl (by repeat (first | exact At.head | apply At.tail)) Try.underlying26 rfl (by simp only [List.getElem?_toArray, List.getElem?_cons_succ, List.getElem?_cons_zero]; rfl) ?_)
      | fail)
    go_ret
    exact ⟨by rw [HG.out]; rfl, H.below⟩
  | false =>
    cases b2 with
    | true =>
      go_wp2_with (first
        | ((with_reducible refine gate_dst (N := 2) rfl ?_); refine fr_box H rfl rfl rfl ?_; intro g2 w2 H1; clear H; have H := H1; clear H1)
        | ((with_reducible refine gate_dst (N := 10) rfl ?_); refine fr_get H rfl rfl rfl (by repeat (first | exact At.head | apply At.tail)) Try.underlying26 rfl (by simp only [List.getElem?_toArray, List.getElem?_cons_succ, List.getElem?_cons_zero]; rfl) ?_)
        | ((with_reducible refine gate_dst (N := 23) rfl ?_); refine fr_sub H (n := 6) rfl rfl rfl (by repeat (first | exact At.head | apply At.tail)) Try.underlying38 rfl (by kernel_rfl) (by simp only [List.toList_toArray, List.drop_succ_cons, List.drop_zero, List.take_succ_cons, List.take_zero]; rfl) (by rfl) ?_)
        | ((with_reducible refine gate_dst (N := 6) rfl ?_); refine fr_new H (N := 6) rfl rfl (cs := #[.int .i64 0, .slice none 0 0, .bool false, .int .i64 0, .bool false, .slice none 0 0]) (t := 38) ?hr ?_; (case hr => first | (go_simp; done) | (go_simp; rfl)); intro g6 w6 H1; clear H; have H := H1; clear H1)
        | ((with_reducible refine gate_store (t := 38) (p := 6) rfl ?_); refine fr_put H rfl rfl rfl rfl rfl (by repeat (first | exact At.head | apply At.tail)) (by rfl) (by kernel_rfl) (by simp [Value.oneCell']) ?_; intro w6_ H1; clear H; have H := H1; clear H1)
        | ((with_reducible refine gate_dst (N := 25) rfl ?_); refine fr_get H rfl rfl rfl (by repeat (first | exact At.head | apply At.tail)) Try.underlying32 rfl (by simp only [List.getElem?_toArray, List.getElem?_cons_succ, List.getElem?_cons_zero]; rfl) ?_)
        | ((with_reducible refine gate_dst (N := 30) rfl ?_); (try (refine gate_guard (by rfl) ?_; dsimp only)); refine fr_get H rfl rfl rfl (by repeat (first | exact At.head | apply At.tail)) Try.underlying26 rfl (by simp only [List.getElem?_toArray, List.getElem?_cons_succ, List.getElem?_cons_zero]; rfl) ?_)
        | ((with_reducible refine gate_dst (N := 35) rfl ?_); refine fr_get H rfl rfl rfl (by repeat (first | exact At.head | apply At.tail)) Try.underlying32 rfl (by simp only [List.getElem?_toArray, List.getElem?_cons_succ, List.getElem?_cons_zero]; rfl) ?_)
        | ((with_reducible refine gate_dst (N := 40) rfl ?_); refine fr_sub H (n := 15) rfl rfl rfl (by repeat (first | exact At.head | apply At.tail)) Try.underlying45 rfl (by kernel_rfl) (by simp only [List.toList_toArray, List.drop_succ_cons, List.drop_zero, List.take_succ_cons, List.take_zero]; rfl) (by rfl) ?_)
        | ((with_reducible refine gate_dst (N := 8) rfl ?_); refine fr_new H (N := 8) rfl rfl (cs := #[.int .i64 0, .int .i64 0, .int .i64 0, .int .i64 0, .int .i64 0, .int .i64 0, .bool false, .bool false, .int .i64 0, .int .i64 0, .int .i64 0, .int .i64 0, .int .i64 0, .slice none 0 0, .int .i64 0]) (t := 45) ?hr ?_; (case hr => first | (go_simp; done) | (go_simp; rfl)); intro g8 w8 H1; clear H; have H := H1; clear H1)
        | ((with_reducible refine gate_store (t := 45) (p := 8) rfl ?_); refine fr_put H rfl rfl rfl rfl rfl (by repeat (first | exact At.head | apply At.tail)) (by rfl) (by kernel_rfl) (by simp [Value.oneCell']) ?_; intro w8_ H1; clear H; have H := H1; clear H1)
        | ((with_reducible refine gate_dst (N := 43) rfl ?_); refine fr_get H rfl rfl rfl (by repeat (first | exact At.head | apply At.tail)) Try.underlying26 rfl (by simp only [List.getElem?_toArray, List.getElem?_cons_succ, List.getElem?_cons_zero]; rfl) ?_)
        | fail)
      go_ret
      exact ⟨by rw [HG.out]; rfl, H.below⟩
    | false =>
      go_wp2_with (first
        | ((with_reducible refine gate_dst (N := 2) rfl ?_); refine fr_box H rfl rfl rfl ?_; intro g2 w2 H1; clear H; have H := H1; clear H1)
        | ((with_reducible refine gate_dst (N := 10) rfl ?_); refine fr_get H rfl rfl rfl (by repeat (first | exact At.head | apply At.tail)) Try.underlying26 rfl (by simp only [List.getElem?_toArray, List.getElem?_cons_succ, List.getElem?_cons_zero]; rfl) ?_)
        | ((with_reducible refine gate_dst (N := 23) rfl ?_); refine fr_sub H (n := 6) rfl rfl rfl (by repeat (first | exact At.head | apply At.tail)) Try.underlying38 rfl (by kernel_rfl) (by simp only [List.toList_toArray, List.drop_succ_cons, List.drop_zero, List.take_succ_cons, List.take_zero]; rfl) (by rfl) ?_)
        | ((with_reducible refine gate_dst (N := 6) rfl ?_); refine fr_new H (N := 6) rfl rfl (cs := #[.int .i64 0, .slice none 0 0, .bool false, .int .i64 0, .bool false, .slice none 0 0]) (t := 38) ?hr ?_; (case hr => first | (go_simp; done) | (go_simp; rfl)); intro g6 w6 H1; clear H; have H := H1; clear H1)
        | ((with_reducible refine gate_store (t := 38) (p := 6) rfl ?_); refine fr_put H rfl rfl rfl rfl rfl (by repeat (first | exact At.head | apply At.tail)) (by rfl) (by kernel_rfl) (by simp [Value.oneCell']) ?_; intro w6_ H1; clear H; have H := H1; clear H1)
        | ((with_reducible refine gate_dst (N := 25) rfl ?_); refine fr_get H rfl rfl rfl (by repeat (first | exact At.head | apply At.tail)) Try.underlying32 rfl (by simp only [List.getElem?_toArray, List.getElem?_cons_succ, List.getElem?_cons_zero]; rfl) ?_)
        | ((with_reducible refine gate_dst (N := 30) rfl ?_); (try (refine gate_guard (by rfl) ?_; dsimp only)); refine fr_get H rfl rfl rfl (by repeat (first | exact At.head | apply At.tail)) Try.underlying26 rfl (by simp only [List.getElem?_toArray, List.getElem?_cons_succ, List.getElem?_cons_zero]; rfl) ?_)
        | ((with_reducible refine gate_dst (N := 35) rfl ?_); refine fr_get H rfl rfl rfl (by repeat (first | exact At.head | apply At.tail)) Try.underlying32 rfl (by simp only [List.getElem?_toArray, List.getElem?_cons_succ, List.getElem?_cons_zero]; rfl) ?_)
        | ((with_reducible refine gate_dst (N := 40) rfl ?_); refine fr_sub H (n := 15) rfl rfl rfl (by repeat (first | exact At.head | apply At.tail)) Try.underlying45 rfl (by kernel_rfl) (by simp only [List.toList_toArray, List.drop_succ_cons, List.drop_zero, List.take_succ_cons, List.take_zero]; rfl) (by rfl) ?_)
        | ((with_reducible refine gate_dst (N := 8) rfl ?_); refine fr_new H (N := 8) rfl rfl (cs := #[.int .i64 0, .int .i64 0, .int .i64 0, .int .i64 0, .int .i64 0, .int .i64 0, .bool false, .bool false, .int .i64 0, .int .i64 0, .int .i64 0, .int .i64 0, .int .i64 0, .slice none 0 0, .int .i64 0]) (t := 45) ?hr ?_; (case hr => first | (go_simp; done) | (go_simp; rfl)); intro g8 w8 H1; clear H; have H := H1; clear H1)
        | ((with_reducible refine gate_store (t := 45) (p := 8) rfl ?_); refine fr_put H rfl rfl rfl rfl rfl (by repeat (first | exact At.head | apply At.tail)) (by rfl) (by kernel_rfl) (by simp [Value.oneCell']) ?_; intro w8_ H1; clear H; have H := H1; clear H1)
        | ((with_reducible refine gate_dst (N := 43) rfl ?_); refine fr_get H rfl rfl rfl (by repeat (first | exact At.head | apply At.tail)) Try.underlying26 rfl (by simp only [List.getElem?_toArray, List.getElem?_cons_succ, List.getElem?_cons_zero]; rfl) ?_)
        | fail)
      go_loopw [20] (fun v20 wr => ∃ k : Nat, k ≤ m ∧ v20 = .int .i64 k ∧ Hid (∀ y ∈ l.take k, greatX y.x = false) ∧ Fr (fun _ => False) (fun _ => False) w wr [] (fun W => RowI W Ai l)) (fun v20 _ => m - (intOf v20).toNat)
      case atStart => exact ⟨0, by omega, rfl, Lib.hid (fun y hy => by simp at hy), H.drop⟩
      case round =>
        clear H
        obtain ⟨k, hk, rfl, HQ, H⟩ := hrel
        by_cases hlt : k < m
        · have hkl : k < l.length := by rw [HM.out]; exact hlt
          have hk1 : (k : Int) < (m : Int) := by omega
          have hs1 : -9223372036854775808 ≤ (k : Int) + 1 := by omega
          have hs2 : (k : Int) + 1 ≤ 9223372036854775807 := by omega
          obtain ⟨⟨ad, e, hx⟩, hrh⟩ := H.now k hkl
          cases e
          obtain ⟨y, hye⟩ : ∃ y, l[k] = y := ⟨_, rfl⟩
          have HT : Hid (l.take (k + 1) = l.take k ++ [y]) := Lib.hid (by rw [List.take_succ_eq_append_getElem hkl, hye])
          have HMEM : Hid (y ∈ l) := Lib.hid (hye ▸ List.getElem_mem hkl)
          have HRH : Hid (∀ W, RowI W (some ad) l → RowH W y.Ah y.x.heard) := Lib.hid (fun W h => by have := (h k hkl).2; rw [hye] at this; exact this)
          rw [hye] at hx hrh
          clear hye hrh
          obtain ⟨⟨ticks, heard, ref, reading, given, tab⟩, Ah, ch, Ax, ct⟩ := y
          have HC : Hid (∀ j u, [Value.int .i64 ticks, .slice Ah heard.length ch, .bool ref, .int .i64 reading, .bool given, .slice Ax tab.length ct][j]? = some u → wr.cell? ((ad.add (k * 6)).add j) = some u) := Lib.hid hx
          have hhl : heard.length ≤ 9223372036854775807 := HH.out _ HMEM.out
          obtain ⟨d1, e1⟩ : ∃ b, decide (40 < heard.length) = b := ⟨_, rfl⟩
          obtain ⟨d2, e2⟩ : ∃ b, decide (128 < tab.length) = b := ⟨_, rfl⟩
          have HX : Hid (greatX ⟨ticks, heard, ref, reading, given, tab⟩ = (d1 || d2 || heard.any (fun h => decide (128 < h.n)))) := Lib.hid (by unfold greatX; rw [e1, e2])
          have f1 : decide ((40 : Int) < (heard.length : Int)) = d1 := nat_dec e1
          have f2 : decide ((128 : Int) < (tab.length : Int)) = d2 := nat_dec e2
          obtain ⟨nh, hnh⟩ : ∃ x, heard.length = x := ⟨_, rfl⟩
          obtain ⟨nt, hnt⟩ : ∃ x, tab.length = x := ⟨_, rfl⟩
          have HNH := Lib.hid hnh
          rw [hnh] at HC hhl f1
          rw [hnt] at HC f2
          clear hx e1 e2 hnh hnt
          have HBAD : Hid (greatX ⟨ticks, heard, ref, reading, given, tab⟩ = true → greatP n l = true) := Lib.hid (fun h => by
            rw [HG.out, List.any_eq_true.2 ⟨_, HMEM.out, h⟩]; rfl)
          dsimp only at HRH
          cases d1 with
          | true =>
            go_wp2_with (first
              | ((with_reducible refine gate_dst (N := 23) rfl ?_); refine load_cells rfl rfl (ad := ad.add (k * 6)) (cs := [.int .i64 ticks, .slice Ah nh ch, .bool ref, .int .i64 reading, .bool given, .slice Ax nt ct]) ?hx Try.underlying38 rfl (by kernel_rfl) HC.out ?_; (case hx => first | rfl | (go_simp; done) | (go_simp; rfl)))
              | ((with_reducible refine gate_dst (N := 2) rfl ?_); refine fr_box H rfl rfl rfl ?_; intro g2 w2 H1; clear H; have H := H1; clear H1)
              | ((with_reducible refine gate_dst (N := 10) rfl ?_); refine fr_get H rfl rfl rfl (by repeat (first | exact At.head | apply At.tail)) Try.underlying26 rfl (by simp only [List.getElem?_toArray, List.getElem?_cons_succ, List.getElem?_cons_zero]; rfl) ?_)
              | ((with_reducible refine gate_dst (N := 23) rfl ?_); refine fr_sub H (n := 6) rfl rfl rfl (by repeat (first | exact At.head | apply At.tail)) Try.underlying38 rfl (by kernel_rfl) (by simp only [List.toList_toArray, List.drop_succ_cons, List.drop_zero, List.take_succ_cons, List.take_zero]; rfl) (by rfl) ?_)
              | ((with_reducible refine gate_dst (N := 6) rfl ?_); refine fr_new H (N := 6) rfl rfl (cs := #[.int .i64 0, .slice none 0 0, .bool false, .int .i64 0, .bool false, .slice none 0 0]) (t := 38) ?hr ?_; (case hr => first | (go_simp; done) | (go_simp; rfl)); intro g6 w6 H1; clear H; have H := H1; clear H1)
              | ((with_reducible refine gate_store (t := 38) (p := 6) rfl ?_); refine fr_put H rfl rfl rfl rfl rfl (by repeat (first | exact At.head | apply At.tail)) (by rfl) (by kernel_rfl) (by simp [Value.oneCell']) ?_; intro w6_ H1; clear H; have H := H1; clear H1)
              | ((with_reducible refine gate_dst (N := 25) rfl ?_); refine fr_get H rfl rfl rfl (by repeat (first | exact At.head | apply At.tail)) Try.underlying32 rfl (by simp only [List.getElem?_toArray, List.getElem?_cons_succ, List.getElem?_cons_zero]; rfl) ?_)
              | ((with_reducible refine gate_dst (N := 30) rfl ?_); (try (refine gate_guard (by rfl) ?_; dsimp only)); refine fr_get H rfl rfl rfl (by repeat (first | exact At.head | apply At.tail)) Try.underlying26 rfl (by simp only [List.getElem?_toArray, List.getElem?_cons_succ, List.getElem?_cons_zero]; rfl) ?_)
              | ((with_reducible refine gate_dst (N := 35) rfl ?_); refine fr_get H rfl rfl rfl (by repeat (first | exact At.head | apply At.tail)) Try.underlying32 rfl (by simp only [List.getElem?_toArray, List.getElem?_cons_succ, List.getElem?_cons_zero]; rfl) ?_)
              | ((with_reducible refine gate_dst (N := 40) rfl ?_); refine fr_sub H (n := 15) rfl rfl rfl (by repeat (first | exact At.head | apply At.tail)) Try.underlying45 rfl (by kernel_rfl) (by simp only [List.toList_toArray, List.drop_succ_cons, List.drop_zero, List.take_succ_cons, List.take_zero]; rfl) (by rfl) ?_)
              | ((with_reducible refine gate_dst (N := 8) rfl ?_); refine fr_new H (N := 8) rfl rfl (cs := #[.int .i64 0, .int .i64 0, .int .i64 0, .int .i64 0, .int .i64 0, .int .i64 0, .bool false, .bool false, .int .i64 0, .int .i64 0, .int .i64 0, .int .i64 0, .int .i64 0, .slice none 0 0, .int .i64 0]) (t := 45) ?hr ?_; (case hr => first | (go_simp; done) | (go_simp; rfl)); intro g8 w8 H1; clear H; have H := H1; clear H1)
              | ((with_reducible refine gate_store (t := 45) (p := 8) rfl ?_); refine fr_put H rfl rfl rfl rfl rfl (by repeat (first | exact At.head | apply At.tail)) (by rfl) (by kernel_rfl) (by simp [Value.oneCell']) ?_; intro w8_ H1; clear H; have H := H1; clear H1)
              | ((with_reducible refine gate_dst (N := 43) rfl ?_); refine fr_get H rfl rfl rfl (by repeat (first | exact At.head | apply At.tail)) Try.underlying26 rfl (by simp only [List.getElem?_toArray, List.getElem?_cons_succ, List.getElem?_cons_zero]; rfl) ?_)
              | fail)
            go_ret
            exact ⟨by rw [HBAD.out (by rw [HX.out]; rfl)]; rfl, H.below⟩
          | false =>
            cases d2 with
            | true =>
              go_wp2_with (first
                | ((with_reducible refine gate_dst (N := 23) rfl ?_); refine load_cells rfl rfl (ad := ad.add (k * 6)) (cs := [.int .i64 ticks, .slice Ah nh ch, .bool ref, .int .i64 reading, .bool given, .slice Ax nt ct]) ?hx Try.underlying38 rfl (by kernel_rfl) HC.out ?_; (case hx => first | rfl | (go_simp; done) | (go_simp; rfl)))
                | ((with_reducible refine gate_dst (N := 2) rfl ?_); refine fr_box H rfl rfl rfl ?_; intro g2 w2 H1; clear H; have H := H1; clear H1)
                | ((with_reducible refine gate_dst (N := 10) rfl ?_); refine fr_get H rfl rfl rfl (by repeat (first | exact At.head | apply At.tail)) Try.underlying26 rfl (by simp only [List.getElem?_toArray, List.getElem?_cons_succ, List.getElem?_cons_zero]; rfl) ?_)
                | ((with_reducible refine gate_dst (N := 23) rfl ?_); refine fr_sub H (n := 6) rfl rfl rfl (by repeat (first | exact At.head | apply At.tail)) Try.underlying38 rfl (by kernel_rfl) (by simp only [List.toList_toArray, List.drop_succ_cons, List.drop_zero, List.take_succ_cons, List.take_zero]; rfl) (by rfl) ?_)
                | ((with_reducible refine gate_dst (N := 6) rfl ?_); refine fr_new H (N := 6) rfl rfl (cs := #[.int .i64 0, .slice none 0 0, .bool false, .int .i64 0, .bool false, .slice none 0 0]) (t := 38) ?hr ?_; (case hr => first | (go_simp; done) | (go_simp; rfl)); intro g6 w6 H1; clear H; have H := H1; clear H1)
                | ((with_reducible refine gate_store (t := 38) (p := 6) rfl ?_); refine fr_put H rfl rfl rfl rfl rfl (by repeat (first | exact At.head | apply At.tail)) (by rfl) (by kernel_rfl) (by simp [Value.oneCell']) ?_; intro w6_ H1; clear H; have H := H1; clear H1)
                | ((with_reducible refine gate_dst (N := 25) rfl ?_); refine fr_get H rfl rfl rfl (by repeat (first | exact At.head | apply At.tail)) Try.underlying32 rfl (by simp only [List.getElem?_toArray, List.getElem?_cons_succ, List.getElem?_cons_zero]; rfl) ?_)
                | ((with_reducible refine gate_dst (N := 30) rfl ?_); (try (refine gate_guard (by rfl) ?_; dsimp only)); refine fr_get H rfl rfl rfl (by repeat (first | exact At.head | apply At.tail)) Try.underlying26 rfl (by simp only [List.getElem?_toArray, List.getElem?_cons_succ, List.getElem?_cons_zero]; rfl) ?_)
                | ((with_reducible refine gate_dst (N := 35) rfl ?_); refine fr_get H rfl rfl rfl (by repeat (first | exact At.head | apply At.tail)) Try.underlying32 rfl (by simp only [List.getElem?_toArray, List.getElem?_cons_succ, List.getElem?_cons_zero]; rfl) ?_)
                | ((with_reducible refine gate_dst (N := 40) rfl ?_); refine fr_sub H (n := 15) rfl rfl rfl (by repeat (first | exact At.head | apply At.tail)) Try.underlying45 rfl (by kernel_rfl) (by simp only [List.toList_toArray, List.drop_succ_cons, List.drop_zero, List.take_succ_cons, List.take_zero]; rfl) (by rfl) ?_)
                | ((with_reducible refine gate_dst (N := 8) rfl ?_); refine fr_new H (N := 8) rfl rfl (cs := #[.int .i64 0, .int .i64 0, .int .i64 0, .int .i64 0, .int .i64 0, .int .i64 0, .bool false, .bool false, .int .i64 0, .int .i64 0, .int .i64 0, .int .i64 0, .int .i64 0, .slice none 0 0, .int .i64 0]) (t := 45) ?hr ?_; (case hr => first | (go_simp; done) | (go_simp; rfl)); intro g8 w8 H1; clear H; have H := H1; clear H1)
                | ((with_reducible refine gate_store (t := 45) (p := 8) rfl ?_); refine fr_put H rfl rfl rfl rfl rfl (by repeat (first | exact At.head | apply At.tail)) (by rfl) (by kernel_rfl) (by simp [Value.oneCell']) ?_; intro w8_ H1; clear H; have H := H1; clear H1)
                | ((with_reducible refine gate_dst (N := 43) rfl ?_); refine fr_get H rfl rfl rfl (by repeat (first | exact At.head | apply At.tail)) Try.underlying26 rfl (by simp only [List.getElem?_toArray, List.getElem?_cons_succ, List.getElem?_cons_zero]; rfl) ?_)
                | fail)
              go_ret
              exact ⟨by rw [HBAD.out (by rw [HX.out]; rfl)]; rfl, H.below⟩
            | false =>
              go_wp2_with (first
                | ((with_reducible refine gate_dst (N := 23) rfl ?_); refine load_cells rfl rfl (ad := ad.add (k * 6)) (cs := [.int .i64 ticks, .slice Ah nh ch, .bool ref, .int .i64 reading, .bool given, .slice Ax nt ct]) ?hx Try.underlying38 rfl (by kernel_rfl) HC.out ?_; (case hx => first | rfl | (go_simp; done) | (go_simp; rfl)))
                | ((with_reducible refine gate_dst (N := 2) rfl ?_); refine fr_box H rfl rfl rfl ?_; intro g2 w2 H1; clear H; have H := H1; clear H1)
                | ((with_reducible refine gate_dst (N := 10) rfl ?_); refine fr_get H rfl rfl rfl (by repeat (first | exact At.head | apply At.tail)) Try.underlying26 rfl (by simp only [List.getElem?_toArray, List.getElem?_cons_succ, List.getElem?_cons_zero]; rfl) ?_)
                | ((with_reducible refine gate_dst (N := 23) rfl ?_); refine fr_sub H (n := 6) rfl rfl rfl (by repeat (first | exact At.head | apply At.tail)) Try.underlying38 rfl (by kernel_rfl) (by simp only [List.toList_toArray, List.drop_succ_cons, List.drop_zero, List.take_succ_cons, List.take_zero]; rfl) (by rfl) ?_)
                | ((with_reducible refine gate_dst (N := 6) rfl ?_); refine fr_new H (N := 6) rfl rfl (cs := #[.int .i64 0, .slice none 0 0, .bool false, .int .i64 0, .bool false, .slice none 0 0]) (t := 38) ?hr ?_; (case hr => first | (go_simp; done) | (go_simp; rfl)); intro g6 w6 H1; clear H; have H := H1; clear H1)
                | ((with_reducible refine gate_store (t := 38) (p := 6) rfl ?_); refine fr_put H rfl rfl rfl rfl rfl (by repeat (first | exact At.head | apply At.tail)) (by rfl) (by kernel_rfl) (by simp [Value.oneCell']) ?_; intro w6_ H1; clear H; have H := H1; clear H1)
                | ((with_reducible refine gate_dst (N := 25) rfl ?_); refine fr_get H rfl rfl rfl (by repeat (first | exact At.head | apply At.tail)) Try.underlying32 rfl (by simp only [List.getElem?_toArray, List.getElem?_cons_succ, List.getElem?_cons_zero]; rfl) ?_)
                | ((with_reducible refine gate_dst (N := 30) rfl ?_); (try (refine gate_guard (by rfl) ?_; dsimp only)); refine fr_get H rfl rfl rfl (by repeat (first | exact At.head | apply At.tail)) Try.underlying26 rfl (by simp only [List.getElem?_toArray, List.getElem?_cons_succ, List.getElem?_cons_zero]; rfl) ?_)
                | ((with_reducible refine gate_dst (N := 35) rfl ?_); refine fr_get H rfl rfl rfl (by repeat (first | exact At.head | apply At.tail)) Try.underlying32 rfl (by simp only [List.getElem?_toArray, List.getElem?_cons_succ, List.getElem?_cons_zero]; rfl) ?_)
                | ((with_reducible refine gate_dst (N := 40) rfl ?_); refine fr_sub H (n := 15) rfl rfl rfl (by repeat (first | exact At.head | apply At.tail)) Try.underlying45 rfl (by kernel_rfl) (by simp only [List.toList_toArray, List.drop_succ_cons, List.drop_zero, List.take_succ_cons, List.take_zero]; rfl) (by rfl) ?_)
                | ((with_reducible refine gate_dst (N := 8) rfl ?_); refine fr_new H (N := 8) rfl rfl (cs := #[.int .i64 0, .int .i64 0, .int .i64 0, .int .i64 0, .int .i64 0, .int .i64 0, .bool false, .bool false, .int .i64 0, .int .i64 0, .int .i64 0, .int .i64 0, .int .i64 0, .slice none 0 0, .int .i64 0]) (t := 45) ?hr ?_; (case hr => first | (go_simp; done) | (go_simp; rfl)); intro g8 w8 H1; clear H; have H := H1; clear H1)
                | ((with_reducible refine gate_store (t := 45) (p := 8) rfl ?_); refine fr_put H rfl rfl rfl rfl rfl (by repeat (first | exact At.head | apply At.tail)) (by rfl) (by kernel_rfl) (by simp [Value.oneCell']) ?_; intro w8_ H1; clear H; have H := H1; clear H1)
                | ((with_reducible refine gate_dst (N := 43) rfl ?_); refine fr_get H rfl rfl rfl (by repeat (first | exact At.head | apply At.tail)) Try.underlying26 rfl (by simp only [List.getElem?_toArray, List.getElem?_cons_succ, List.getElem?_cons_zero]; rfl) ?_)
                | fail)
              go_loopw [37] (fun v37 wr => ∃ j : Nat, j ≤ nh ∧ v37 = .int .i64 j ∧ Hid (∀ h ∈ heard.take j, decide (128 < h.n) = false) ∧ Fr (fun _ => False) (fun _ => False) w wr [] (fun W => RowI W (some ad) l)) (fun v37 _ => nh - (intOf v37).toNat)
              case atStart => exact ⟨0, by omega, rfl, Lib.hid (fun y hy => by simp at hy), H.drop⟩
              case round =>
                clear H HC
                obtain ⟨j, hj, rfl, HJ, H⟩ := hrel
                by_cases hjt : j < nh
                · have hjl : j < heard.length := by rw [HNH.out]; exact hjt
                  have hj1 : (j : Int) < (nh : Int) := by omega
                  have hs3 : -9223372036854775808 ≤ (j : Int) + 1 := by omega
                  have hs4 : (j : Int) + 1 ≤ 9223372036854775807 := by omega
                  obtain ⟨ad2, e2, hc2⟩ := HRH.out _ H.now j hjl
                  cases e2
                  obtain ⟨z, hze⟩ : ∃ z, heard[j] = z := ⟨_, rfl⟩
                  have HTJ : Hid (heard.take (j + 1) = heard.take j ++ [z]) := Lib.hid (by rw [List.take_succ_eq_append_getElem hjl, hze])
                  have HZM : Hid (z ∈ heard) := Lib.hid (hze ▸ List.getElem_mem hjl)
                  rw [hze] at hc2
                  clear hze
                  obtain ⟨kind, frm, mlo, mhi, mheld, mhops, mgood, mref, slo, shi, pulse, mst, msn, Am, nm, cm, age⟩ := z
                  have HC2 : Hid (∀ j2 u, [Value.int .i64 kind, .int .i64 frm, .int .i64 mlo, .int .i64 mhi, .int .i64 mheld, .int .i64 mhops, .bool mgood, .bool mref, .int .i64 slo, .int .i64 shi, .int .i64 pulse, .int .i64 mst, .int .i64 msn, .slice Am nm cm, .int .i64 age][j2]? = some u → wr.cell? ((ad2.add (j * 15)).add j2) = some u) := Lib.hid hc2
                  obtain ⟨d3, e3⟩ : ∃ b, decide (128 < nm) = b := ⟨_, rfl⟩
                  have f3 : decide ((128 : Int) < (nm : Int)) = d3 := nat_dec e3
                  have HE3 := Lib.hid e3
                  clear hc2 e3
                  cases d3 with
                  | true =>
                    go_wp2_with (first
                      | ((with_reducible refine gate_dst (N := 40) rfl ?_); refine load_cells rfl rfl (ad := ad2.add (j * 15)) (cs := [.int .i64 kind, .int .i64 frm, .int .i64 mlo, .int .i64 mhi, .int .i64 mheld, .int .i64 mhops, .bool mgood, .bool mref, .int .i64 slo, .int .i64 shi, .int .i64 pulse, .int .i64 mst, .int .i64 msn, .slice Am nm cm, .int .i64 age]) ?hx Try.underlying45 rfl (by kernel_rfl) HC2.out ?_; (case hx => first | rfl | (go_simp; done) | (go_simp; rfl)))
                      | ((with_reducible refine gate_dst (N := 2) rfl ?_); refine fr_box H rfl rfl rfl ?_; intro g2 w2 H1; clear H; have H := H1; clear H1)
                      | ((with_reducible refine gate_dst (N := 10) rfl ?_); refine fr_get H rfl rfl rfl (by repeat (first | exact At.head | apply At.tail)) Try.underlying26 rfl (by simp only [List.getElem?_toArray, List.getElem?_cons_succ, List.getElem?_cons_zero]; rfl) ?_)
                      | ((with_reducible refine gate_dst (N := 23) rfl ?_); refine fr_sub H (n := 6) rfl rfl rfl (by repeat (first | exact At.head | apply At.tail)) Try.underlying38 rfl (by kernel_rfl) (by simp only [List.toList_toArray, List.drop_succ_cons, List.drop_zero, List.take_succ_cons, List.take_zero]; rfl) (by rfl) ?_)
                      | ((with_reducible refine gate_dst (N := 6) rfl ?_); refine fr_new H (N := 6) rfl rfl (cs := #[.int .i64 0, .slice none 0 0, .bool false, .int .i64 0, .bool false, .slice none 0 0]) (t := 38) ?hr ?_; (case hr => first | (go_simp; done) | (go_simp; rfl)); intro g6 w6 H1; clear H; have H := H1; clear H1)
                      | ((with_reducible refine gate_store (t := 38) (p := 6) rfl ?_); refine fr_put H rfl rfl rfl rfl rfl (by repeat (first | exact At.head | apply At.tail)) (by rfl) (by kernel_rfl) (by simp [Value.oneCell']) ?_; intro w6_ H1; clear H; have H := H1; clear H1)
                      | ((with_reducible refine gate_dst (N := 25) rfl ?_); refine fr_get H rfl rfl rfl (by repeat (first | exact At.head | apply At.tail)) Try.underlying32 rfl (by simp only [List.getElem?_toArray, List.getElem?_cons_succ, List.getElem?_cons_zero]; rfl) ?_)
                      | ((with_reducible refine gate_dst (N := 30) rfl ?_); (try (refine gate_guard (by rfl) ?_; dsimp only)); refine fr_get H rfl rfl rfl (by repeat (first | exact At.head | apply At.tail)) Try.underlying26 rfl (by simp only [List.getElem?_toArray, List.getElem?_cons_succ, List.getElem?_cons_zero]; rfl) ?_)
                      | ((with_reducible refine gate_dst (N := 35) rfl ?_); refine fr_get H rfl rfl rfl (by repeat (first | exact At.head | apply At.tail)) Try.underlying32 rfl (by simp only [List.getElem?_toArray, List.getElem?_cons_succ, List.getElem?_cons_zero]; rfl) ?_)
                      | ((with_reducible refine gate_dst (N := 40) rfl ?_); refine fr_sub H (n := 15) rfl rfl rfl (by repeat (first | exact At.head | apply At.tail)) Try.underlying45 rfl (by kernel_rfl) (by simp only [List.toList_toArray, List.drop_succ_cons, List.drop_zero, List.take_succ_cons, List.take_zero]; rfl) (by rfl) ?_)
                      | ((with_reducible refine gate_dst (N := 8) rfl ?_); refine fr_new H (N := 8) rfl rfl (cs := #[.int .i64 0, .int .i64 0, .int .i64 0, .int .i64 0, .int .i64 0, .int .i64 0, .bool false, .bool false, .int .i64 0, .int .i64 0, .int .i64 0, .int .i64 0, .int .i64 0, .slice none 0 0, .int .i64 0]) (t := 45) ?hr ?_; (case hr => first | (go_simp; done) | (go_simp; rfl)); intro g8 w8 H1; clear H; have H := H1; clear H1)
                      | ((with_reducible refine gate_store (t := 45) (p := 8) rfl ?_); refine fr_put H rfl rfl rfl rfl rfl (by repeat (first | exact At.head | apply At.tail)) (by rfl) (by kernel_rfl) (by simp [Value.oneCell']) ?_; intro w8_ H1; clear H; have H := H1; clear H1)
                      | ((with_reducible refine gate_dst (N := 43) rfl ?_); refine fr_get H rfl rfl rfl (by repeat (first | exact At.head | apply At.tail)) Try.underlying26 rfl (by simp only [List.getElem?_toArray, List.getElem?_cons_succ, List.getElem?_cons_zero]; rfl) ?_)
                      | fail)
                    go_ret
                    exact ⟨by rw [HBAD.out (by rw [HX.out, List.any_eq_true.2 ⟨_, HZM.out, HE3.out⟩]; rfl)]; rfl, H.below⟩
                  | false =>
                    go_wp2_with (first
                      | ((with_reducible refine gate_dst (N := 40) rfl ?_); refine load_cells rfl rfl (ad := ad2.add (j * 15)) (cs := [.int .i64 kind, .int .i64 frm, .int .i64 mlo, .int .i64 mhi, .int .i64 mheld, .int .i64 mhops, .bool mgood, .bool mref, .int .i64 slo, .int .i64 shi, .int .i64 pulse, .int .i64 mst, .int .i64 msn, .slice Am nm cm, .int .i64 age]) ?hx Try.underlying45 rfl (by kernel_rfl) HC2.out ?_; (case hx => first | rfl | (go_simp; done) | (go_simp; rfl)))
                      | ((with_reducible refine gate_dst (N := 2) rfl ?_); refine fr_box H rfl rfl rfl ?_; intro g2 w2 H1; clear H; have H := H1; clear H1)
                      | ((with_reducible refine gate_dst (N := 10) rfl ?_); refine fr_get H rfl rfl rfl (by repeat (first | exact At.head | apply At.tail)) Try.underlying26 rfl (by simp only [List.getElem?_toArray, List.getElem?_cons_succ, List.getElem?_cons_zero]; rfl) ?_)
                      | ((with_reducible refine gate_dst (N := 23) rfl ?_); refine fr_sub H (n := 6) rfl rfl rfl (by repeat (first | exact At.head | apply At.tail)) Try.underlying38 rfl (by kernel_rfl) (by simp only [List.toList_toArray, List.drop_succ_cons, List.drop_zero, List.take_succ_cons, List.take_zero]; rfl) (by rfl) ?_)
                      | ((with_reducible refine gate_dst (N := 6) rfl ?_); refine fr_new H (N := 6) rfl rfl (cs := #[.int .i64 0, .slice none 0 0, .bool false, .int .i64 0, .bool false, .slice none 0 0]) (t := 38) ?hr ?_; (case hr => first | (go_simp; done) | (go_simp; rfl)); intro g6 w6 H1; clear H; have H := H1; clear H1)
                      | ((with_reducible refine gate_store (t := 38) (p := 6) rfl ?_); refine fr_put H rfl rfl rfl rfl rfl (by repeat (first | exact At.head | apply At.tail)) (by rfl) (by kernel_rfl) (by simp [Value.oneCell']) ?_; intro w6_ H1; clear H; have H := H1; clear H1)
                      | ((with_reducible refine gate_dst (N := 25) rfl ?_); refine fr_get H rfl rfl rfl (by repeat (first | exact At.head | apply At.tail)) Try.underlying32 rfl (by simp only [List.getElem?_toArray, List.getElem?_cons_succ, List.getElem?_cons_zero]; rfl) ?_)
                      | ((with_reducible refine gate_dst (N := 30) rfl ?_); (try (refine gate_guard (by rfl) ?_; dsimp only)); refine fr_get H rfl rfl rfl (by repeat (first | exact At.head | apply At.tail)) Try.underlying26 rfl (by simp only [List.getElem?_toArray, List.getElem?_cons_succ, List.getElem?_cons_zero]; rfl) ?_)
                      | ((with_reducible refine gate_dst (N := 35) rfl ?_); refine fr_get H rfl rfl rfl (by repeat (first | exact At.head | apply At.tail)) Try.underlying32 rfl (by simp only [List.getElem?_toArray, List.getElem?_cons_succ, List.getElem?_cons_zero]; rfl) ?_)
                      | ((with_reducible refine gate_dst (N := 40) rfl ?_); refine fr_sub H (n := 15) rfl rfl rfl (by repeat (first | exact At.head | apply At.tail)) Try.underlying45 rfl (by kernel_rfl) (by simp only [List.toList_toArray, List.drop_succ_cons, List.drop_zero, List.take_succ_cons, List.take_zero]; rfl) (by rfl) ?_)
                      | ((with_reducible refine gate_dst (N := 8) rfl ?_); refine fr_new H (N := 8) rfl rfl (cs := #[.int .i64 0, .int .i64 0, .int .i64 0, .int .i64 0, .int .i64 0, .int .i64 0, .bool false, .bool false, .int .i64 0, .int .i64 0, .int .i64 0, .int .i64 0, .int .i64 0, .slice none 0 0, .int .i64 0]) (t := 45) ?hr ?_; (case hr => first | (go_simp; done) | (go_simp; rfl)); intro g8 w8 H1; clear H; have H := H1; clear H1)
                      | ((with_reducible refine gate_store (t := 45) (p := 8) rfl ?_); refine fr_put H rfl rfl rfl rfl rfl (by repeat (first | exact At.head | apply At.tail)) (by rfl) (by kernel_rfl) (by simp [Value.oneCell']) ?_; intro w8_ H1; clear H; have H := H1; clear H1)
                      | ((with_reducible refine gate_dst (N := 43) rfl ?_); refine fr_get H rfl rfl rfl (by repeat (first | exact At.head | apply At.tail)) Try.underlying26 rfl (by simp only [List.getElem?_toArray, List.getElem?_cons_succ, List.getElem?_cons_zero]; rfl) ?_)
                      | fail)
                    go_roundw
                    case rel => exact ⟨j + 1, by omega, by simp, Lib.hid (fun h hm => by
                      rw [HTJ.out] at hm
                      rcases List.mem_append.1 hm with hm | hm
                      · exact HJ.out h hm
                      · rw [List.mem_singleton.1 hm]; exact HE3.out), H.drop⟩
                    case measure => simp [intOf]; omega
                · obtain rfl : j = nh := by omega
                  go_wp2_with (first
                    | ((with_reducible refine gate_dst (N := 2) rfl ?_); refine fr_box H rfl rfl rfl ?_; intro g2 w2 H1; clear H; have H := H1; clear H1)
                    | ((with_reducible refine gate_dst (N := 10) rfl ?_); refine fr_get H rfl rfl rfl (by repeat (first | exact At.head | apply At.tail)) Try.underlying26 rfl (by simp only [List.getElem?_toArray, List.getElem?_cons_succ, List.getElem?_cons_zero]; rfl) ?_)
                    | ((with_reducible refine gate_dst (N := 23) rfl ?_); refine fr_sub H (n := 6) rfl rfl rfl (by repeat (first | exact At.head | apply At.tail)) Try.underlying38 rfl (by kernel_rfl) (by simp only [List.toList_toArray, List.drop_succ_cons, List.drop_zero, List.take_succ_cons, List.take_zero]; rfl) (by rfl) ?_)
                    | ((with_reducible refine gate_dst (N := 6) rfl ?_); refine fr_new H (N := 6) rfl rfl (cs := #[.int .i64 0, .slice none 0 0, .bool false, .int .i64 0, .bool false, .slice none 0 0]) (t := 38) ?hr ?_; (case hr => first | (go_simp; done) | (go_simp; rfl)); intro g6 w6 H1; clear H; have H := H1; clear H1)
                    | ((with_reducible refine gate_store (t := 38) (p := 6) rfl ?_); refine fr_put H rfl rfl rfl rfl rfl (by repeat (first | exact At.head | apply At.tail)) (by rfl) (by kernel_rfl) (by simp [Value.oneCell']) ?_; intro w6_ H1; clear H; have H := H1; clear H1)
                    | ((with_reducible refine gate_dst (N := 25) rfl ?_); refine fr_get H rfl rfl rfl (by repeat (first | exact At.head | apply At.tail)) Try.underlying32 rfl (by simp only [List.getElem?_toArray, List.getElem?_cons_succ, List.getElem?_cons_zero]; rfl) ?_)
                    | ((with_reducible refine gate_dst (N := 30) rfl ?_); (try (refine gate_guard (by rfl) ?_; dsimp only)); refine fr_get H rfl rfl rfl (by repeat (first | exact At.head | apply At.tail)) Try.underlying26 rfl (by simp only [List.getElem?_toArray, List.getElem?_cons_succ, List.getElem?_cons_zero]; rfl) ?_)
                    | ((with_reducible refine gate_dst (N := 35) rfl ?_); refine fr_get H rfl rfl rfl (by repeat (first | exact At.head | apply At.tail)) Try.underlying32 rfl (by simp only [List.getElem?_toArray, List.getElem?_cons_succ, List.getElem?_cons_zero]; rfl) ?_)
                    | ((with_reducible refine gate_dst (N := 40) rfl ?_); refine fr_sub H (n := 15) rfl rfl rfl (by repeat (first | exact At.head | apply At.tail)) Try.underlying45 rfl (by kernel_rfl) (by simp only [List.toList_toArray, List.drop_succ_cons, List.drop_zero, List.take_succ_cons, List.take_zero]; rfl) (by rfl) ?_)
                    | ((with_reducible refine gate_dst (N := 8) rfl ?_); refine fr_new H (N := 8) rfl rfl (cs := #[.int .i64 0, .int .i64 0, .int .i64 0, .int .i64 0, .int .i64 0, .int .i64 0, .bool false, .bool false, .int .i64 0, .int .i64 0, .int .i64 0, .int .i64 0, .int .i64 0, .slice none 0 0, .int .i64 0]) (t := 45) ?hr ?_; (case hr => first | (go_simp; done) | (go_simp; rfl)); intro g8 w8 H1; clear H; have H := H1; clear H1)
                    | ((with_reducible refine gate_store (t := 45) (p := 8) rfl ?_); refine fr_put H rfl rfl rfl rfl rfl (by repeat (first | exact At.head | apply At.tail)) (by rfl) (by kernel_rfl) (by simp [Value.oneCell']) ?_; intro w8_ H1; clear H; have H := H1; clear H1)
                    | ((with_reducible refine gate_dst (N := 43) rfl ?_); refine fr_get H rfl rfl rfl (by repeat (first | exact At.head | apply At.tail)) Try.underlying26 rfl (by simp only [List.getElem?_toArray, List.getElem?_cons_succ, List.getElem?_cons_zero]; rfl) ?_)
                    | fail)
                  go_roundw
                  case rel => exact ⟨k + 1, by omega, by simp, Lib.hid (fun y hm => by
                    rw [HT.out] at hm
                    rcases List.mem_append.1 hm with hm | hm
                    · exact HQ.out y hm
                    · rw [List.mem_singleton.1 hm, HX.out]
                      have e : heard.take j = heard := List.take_of_length_le (by rw [HNH.out]; exact Nat.le_refl _)
                      rw [List.any_eq_false.2 (fun h hm => by rw [HJ.out h (by rw [e]; exact hm)]; simp)]
                      rfl), H⟩
                  case measure => simp [intOf]; omega
        · obtain rfl : k = m := by omega
          go_wp2_with (first
            | ((with_reducible refine gate_dst (N := 2) rfl ?_); refine fr_box H rfl rfl rfl ?_; intro g2 w2 H1; clear H; have H := H1; clear H1)
            | ((with_reducible refine gate_dst (N := 10) rfl ?_); refine fr_get H rfl rfl rfl (by repeat (first | exact At.head | apply At.tail)) Try.underlying26 rfl (by simp only [List.getElem?_toArray, List.getElem?_cons_succ, List.getElem?_cons_zero]; rfl) ?_)
            | ((with_reducible refine gate_dst (N := 23) rfl ?_); refine fr_sub H (n := 6) rfl rfl rfl (by repeat (first | exact At.head | apply At.tail)) Try.underlying38 rfl (by kernel_rfl) (by simp only [List.toList_toArray, List.drop_succ_cons, List.drop_zero, List.take_succ_cons, List.take_zero]; rfl) (by rfl) ?_)
            | ((with_reducible refine gate_dst (N := 6) rfl ?_); refine fr_new H (N := 6) rfl rfl (cs := #[.int .i64 0, .slice none 0 0, .bool false, .int .i64 0, .bool false, .slice none 0 0]) (t := 38) ?hr ?_; (case hr => first | (go_simp; done) | (go_simp; rfl)); intro g6 w6 H1; clear H; have H := H1; clear H1)
            | ((with_reducible refine gate_store (t := 38) (p := 6) rfl ?_); refine fr_put H rfl rfl rfl rfl rfl (by repeat (first | exact At.head | apply At.tail)) (by rfl) (by kernel_rfl) (by simp [Value.oneCell']) ?_; intro w6_ H1; clear H; have H := H1; clear H1)
            | ((with_reducible refine gate_dst (N := 25) rfl ?_); refine fr_get H rfl rfl rfl (by repeat (first | exact At.head | apply At.tail)) Try.underlying32 rfl (by simp only [List.getElem?_toArray, List.getElem?_cons_succ, List.getElem?_cons_zero]; rfl) ?_)
            | ((with_reducible refine gate_dst (N := 30) rfl ?_); (try (refine gate_guard (by rfl) ?_; dsimp only)); refine fr_get H rfl rfl rfl (by repeat (first | exact At.head | apply At.tail)) Try.underlying26 rfl (by simp only [List.getElem?_toArray, List.getElem?_cons_succ, List.getElem?_cons_zero]; rfl) ?_)
            | ((with_reducible refine gate_dst (N := 35) rfl ?_); refine fr_get H rfl rfl rfl (by repeat (first | exact At.head | apply At.tail)) Try.underlying32 rfl (by simp only [List.getElem?_toArray, List.getElem?_cons_succ, List.getElem?_cons_zero]; rfl) ?_)
            | ((with_reducible refine gate_dst (N := 40) rfl ?_); refine fr_sub H (n := 15) rfl rfl rfl (by repeat (first | exact At.head | apply At.tail)) Try.underlying45 rfl (by kernel_rfl) (by simp only [List.toList_toArray, List.drop_succ_cons, List.drop_zero, List.take_succ_cons, List.take_zero]; rfl) (by rfl) ?_)
            | ((with_reducible refine gate_dst (N := 8) rfl ?_); refine fr_new H (N := 8) rfl rfl (cs := #[.int .i64 0, .int .i64 0, .int .i64 0, .int .i64 0, .int .i64 0, .int .i64 0, .bool false, .bool false, .int .i64 0, .int .i64 0, .int .i64 0, .int .i64 0, .int .i64 0, .slice none 0 0, .int .i64 0]) (t := 45) ?hr ?_; (case hr => first | (go_simp; done) | (go_simp; rfl)); intro g8 w8 H1; clear H; have H := H1; clear H1)
            | ((with_reducible refine gate_store (t := 45) (p := 8) rfl ?_); refine fr_put H rfl rfl rfl rfl rfl (by repeat (first | exact At.head | apply At.tail)) (by rfl) (by kernel_rfl) (by simp [Value.oneCell']) ?_; intro w8_ H1; clear H; have H := H1; clear H1)
            | ((with_reducible refine gate_dst (N := 43) rfl ?_); refine fr_get H rfl rfl rfl (by repeat (first | exact At.head | apply At.tail)) Try.underlying26 rfl (by simp only [List.getElem?_toArray, List.getElem?_cons_succ, List.getElem?_cons_zero]; rfl) ?_)
            | fail)
          go_ret
          refine ⟨?_, H.below⟩
          have e : l.take k = l := List.take_of_length_le (by rw [HM.out]; exact Nat.le_refl _)
          rw [HG.out, List.any_eq_false.2 (fun y hm => by rw [HQ.out y (by rw [e]; exact hm)]; simp)]
          rfl
set_option maxRecDepth 100000 in
set_option maxHeartbeats 1000000 in
theorem some_calls (w : World) : Calls Try.prog 15 #[] w fun e w' => e = .returned (.agg #[.int .i64 1, .int .i64 0, .int .i64 0, .int .i64 1000, .int .i64 1, .int .i64 100, .int .i64 10, .int .i64 50, .int .i64 20, .int .i64 5, .int .i64 5000, .int .i64 1000]) ∧ Below w.heap.size w w' := by
  have H := Fr.start0 (M := fun _ => False) (A := fun _ => False) (w := w) (p := fun _ => True) (fun _ h => h.elim) (fun _ _ => trivial)
  go_enter Try.func15, Try.ntmps15
  go_wp2_with (first
    | ((with_reducible refine gate_dst (N := 0) rfl ?_); refine fr_new H (N := 0) rfl rfl (cs := #[.int .i64 0, .int .i64 0, .int .i64 0, .int .i64 0, .int .i64 0, .int .i64 0, .int .i64 0, .int .i64 0, .int .i64 0, .int .i64 0, .int .i64 0, .int .i64 0]) (t := 23) ?hr ?_; (case hr => first | (go_simp; done) | (go_simp; rfl)); intro g0 w0 H1; clear H; have H := H1; clear H1)
    | ((with_reducible refine gate_store (t := 23) (p := 0) rfl ?_); refine fr_put H rfl rfl rfl rfl rfl (by repeat (first | exact At.head | apply At.tail)) (by rfl) (by kernel_rfl) (by simp [Value.oneCell']) ?_; intro w0_ H1; clear H; have H := H1; clear H1)
    | fail)
  refine bodyPost_ret (results_c rfl _ _ g0 23 _ (0, 0) _ rfl (H.of (by repeat (first | exact At.head | apply At.tail))) Try.underlying23 rfl (by kernel_rfl)) rfl ?_
  exact ⟨rfl, H.below⟩
def pA : Par := ⟨1, 0, 0, 1000, 1, 100, 10, 50, 20, 5, 5000, 1000⟩
def sA : St := ⟨0, 0, 0, false, 0, 0, false, [], 0, 0, 0⟩
def xA : Inp := ⟨1000, [], true, 5000, false, []⟩
theorem sane_A : saneS pA.D sA = sA := by kernel_rfl
theorem told_nil (N me : Int) : told N me [] = [] := List.eq_nil_of_length_eq_zero (by unfold told; rw [sortB_length]; rfl)
theorem fuse_A : fuse 0 [⟨4950, 5050⟩] = (4950, 5050, true) := by
  have h1 : most 0 (lows [⟨4950, 5050⟩]) = 4950 := most_is (by decide) (by decide) (by decide) (by decide)
  have h2 : least 0 (highs [⟨4950, 5050⟩]) = 5050 := least_is (by decide) (by decide) (by decide) (by decide)
  have h : fuse 0 [⟨4950, 5050⟩] = fin 0 (lows [⟨4950, 5050⟩]) (highs [⟨4950, 5050⟩]) := if_neg (by decide)
  rw [h]
  unfold fin
  rw [h1, h2, if_neg (by decide), clip_id (by decide) (by decide), clip_id (by decide) (by decide)]
theorem spans_A : spansP pA 0 xA = [⟨4950, 5050⟩] := by
  unfold spansP seenL
  rw [show rdB pA xA = true by kernel_rfl, show told pA.N 0 xA.heard = [] from told_nil _ _]
  kernel_rfl
theorem next_A : nextS pA 0 sA xA = ⟨4950, 5050, 0, false, 0, 0, true, [], 0, 0, 0⟩ := by
  unfold nextS
  rw [spans_A, show pA.F = 0 by rfl, fuse_A]
  kernel_rfl
theorem beat_A0 : beatS0 pA 0 sA xA = ⟨4950, 5050, 5000, true, 0, 0, true, [], 5000, 0, 0⟩ := by
  unfold beatS0
  rw [next_A]
  kernel_rfl
theorem beat_A : beatS pA 0 sA xA = ⟨4950, 5050, 5000, true, 0, 0, true, [], 5000, 1, 0⟩ := by
  unfold beatS
  rw [beat_A0]
  kernel_rfl
theorem leaps_nil (w : World) : Kd.C k82 w none 0 [] := ⟨rfl, by omega, fun h => by omega⟩
theorem rowH_nil (w : World) (A : Option Addr) : RowH w A [] := fun k hk => by simp at hk
set_option maxRecDepth 100000 in
set_option maxHeartbeats 4000000 in
theorem alive_calls (w : World) : Calls Try.prog 6 #[] w fun e w' => e = .returned (.bool true) ∧ Below w.heap.size w w' := by
  have H := Fr.start0 (M := fun _ => False) (A := fun _ => False) (w := w) (p := fun _ => True) (fun _ h => h.elim) (fun _ _ => trivial)
  have KNew : Hid (∀ W, Calls Try.prog 9 #[.agg #[.int .i64 1, .int .i64 0, .int .i64 0, .int .i64 1000, .int .i64 1, .int .i64 100, .int .i64 10, .int .i64 50, .int .i64 20, .int .i64 5, .int .i64 5000, .int .i64 1000], .int .i64 0, .agg #[.int .i64 0, .int .i64 0, .int .i64 0, .bool false, .int .i64 0, .int .i64 0, .bool false, .slice none 0 0, .int .i64 0, .int .i64 0, .int .i64 0]] W fun e w' => ∃ g A' c', e = .returned (.pointer (some ⟨g, 0, none⟩)) ∧ W.heap.size ≤ g ∧ w'.heap[g]? = some (.cells #[.int .i64 1, .int .i64 0, .int .i64 0, .int .i64 1000, .int .i64 1, .int .i64 100, .int .i64 10, .int .i64 50, .int .i64 20, .int .i64 5, .int .i64 5000, .int .i64 1000, .int .i64 0, .int .i64 0, .int .i64 0, .bool false, .int .i64 0, .int .i64 0, .bool false, .slice A' 0 c', .int .i64 0, .int .i64 0, .int .i64 0, .int .i64 0] 52 (0, 0)) ∧ w'.ownsRow W.heap.size 82 2 (.slice A' 0 c') 0 [] ∧ (∀ ad, A' = some ad → ad.block ≠ g) ∧ Below W.heap.size W w') := Lib.hid (fun W => by
    have := New_calls pA 0 sA none 0 W (leaps_nil W) (by decide)
    rw [sane_A] at this
    exact this)
  have KBeat : Hid (∀ W g A' c', W.heap[g]? = some (.cells #[.int .i64 1, .int .i64 0, .int .i64 0, .int .i64 1000, .int .i64 1, .int .i64 100, .int .i64 10, .int .i64 50, .int .i64 20, .int .i64 5, .int .i64 5000, .int .i64 1000, .int .i64 0, .int .i64 0, .int .i64 0, .bool false, .int .i64 0, .int .i64 0, .bool false, .slice A' 0 c', .int .i64 0, .int .i64 0, .int .i64 0, .int .i64 0] 52 (0, 0)) → Tr (fun k => k = g) W (fun W => W.ownsRow w.heap.size 82 2 (.slice A' 0 c') 0 []) → Calls Try.prog 10 #[.pointer (some ⟨g, 0, none⟩), .agg #[.int .i64 1000, .slice none 0 0, .bool true, .int .i64 5000, .bool false, .slice none 0 0]] W fun e w' => ∃ (A1 : Option Addr) (c1 : Nat) (A2 : Option Addr) (c2 : Nat) (rd : Bool) (q1 q2 pu : Int), e = .returned (.agg #[.int .i64 1, .int .i64 0, .int .i64 4950, .int .i64 5050, .int .i64 0, .int .i64 0, .bool true, .bool rd, .int .i64 q1, .int .i64 q2, .int .i64 pu, .int .i64 5000, .int .i64 1, .slice A2 0 c2]) ∧ w'.heap[g]? = some (.cells #[.int .i64 1, .int .i64 0, .int .i64 0, .int .i64 1000, .int .i64 1, .int .i64 100, .int .i64 10, .int .i64 50, .int .i64 20, .int .i64 5, .int .i64 5000, .int .i64 1000, .int .i64 4950, .int .i64 5050, .int .i64 5000, .bool true, .int .i64 0, .int .i64 0, .bool true, .slice A1 0 c1, .int .i64 5000, .int .i64 1, .int .i64 0, .int .i64 0] 52 (0, 0)) ∧ Chg (fun k => k = g) W w') := Lib.hid (fun W g A' c' h1 h2 => by
    have := Beat_calls pA 0 sA A' c' g xA none 0 none 0 W h1 (Foot.imp h2 (fun W' h3 => ⟨rowH_nil _ _, leaps_nil _, by
      obtain ⟨A2, c2, e, _, h4, _⟩ := row_C (l := []) h3 rfl
      injection e with e1 e2 e3
      rw [e1]
      exact h4⟩)) (by decide) (by decide) (by decide)
    rw [beat_A0, beat_A] at this
    refine this.mono fun e w' h => ?_
    obtain ⟨A1, c1, A2, c2, h3, h4, _, _, _, h5⟩ := h
    exact ⟨A1, c1, A2, c2, _, _, _, _, h3, h4, h5⟩)
  have KNow : Hid (∀ W g A' c', W.heap[g]? = some (.cells #[.int .i64 1, .int .i64 0, .int .i64 0, .int .i64 1000, .int .i64 1, .int .i64 100, .int .i64 10, .int .i64 50, .int .i64 20, .int .i64 5, .int .i64 5000, .int .i64 1000, .int .i64 4950, .int .i64 5050, .int .i64 5000, .bool true, .int .i64 0, .int .i64 0, .bool true, .slice A' 0 c', .int .i64 5000, .int .i64 1, .int .i64 0, .int .i64 0] 52 (0, 0)) → Calls Try.prog 16 #[.pointer (some ⟨g, 0, none⟩)] W fun e w' => e = .returned (.tuple #[.int .i64 5000, .int .i64 0]) ∧ Below W.heap.size W w') := Lib.hid (fun W g A' c' h => by
    exact Now_calls pA ⟨4950, 5050, 5000, true, 0, 0, true, [], 5000, 1, 0⟩ A' c' g 0 W h)
  go_enter Try.func6, Try.ntmps6
  go_wp2_with (first
    | (go_at_call 15; (with_reducible refine (some_calls _).mono ?_); rintro e w' ⟨rfl, hb⟩; have H1 := H.call hb; clear hb; clear H; have H := H1; clear H1)
    | (go_at_call 9; (with_reducible refine (KNew.out _).mono ?_); rintro e w' ⟨g, A1, c1, rfl, hg, hb, ho, hne, hB⟩; have H1 := Fr.freshRow H hg hb hB ho hne; clear hg hb hB ho hne H; have H := H1; clear H1)
    | (go_at_call 10; have HT := Foot.imp (Fr.trAt H At.head) (fun _ h => h.2); (with_reducible refine (KBeat.out _ g A1 c1 (H.of At.head) HT).mono ?_); clear HT; rintro e w' ⟨A3, c3, A2, c2, rd, q1, q2, pu, rfl, hb, hc⟩; have H1 := H.turn At.head hb hc; clear hb hc H; have H := H1; clear H1)
    | (go_at_call 16; (with_reducible refine (KNow.out _ _ _ _ (H.of (by repeat (first | exact At.head | apply At.tail)))).mono ?_); rintro e w' ⟨rfl, hb⟩; have H1 := H.call hb; clear hb; clear H; have H := H1; clear H1)
    | ((with_reducible refine gate_dst (N := 2) rfl ?_); refine fr_new H (N := 2) rfl rfl (cs := #[.int .i64 0, .int .i64 0, .int .i64 0, .int .i64 0, .int .i64 0, .int .i64 0, .bool false, .bool false, .int .i64 0, .int .i64 0, .int .i64 0, .int .i64 0, .int .i64 0, .slice none 0 0]) (t := 43) ?hr ?_; (case hr => first | (go_simp; done) | (go_simp; rfl)); intro g2 w2 H1; clear H; have H := H1; clear H1)
    | ((with_reducible refine gate_store (t := 43) (p := 2) rfl ?_); refine fr_put H rfl rfl rfl rfl rfl (by repeat (first | exact At.head | apply At.tail)) (by rfl) (by kernel_rfl) (by simp [Value.oneCell']) ?_; intro w2_ H1; clear H; have H := H1; clear H1)
    | ((with_reducible refine gate_dst (N := 28) rfl ?_); (try (refine gate_guard (by rfl) ?_; dsimp only)); refine fr_sub H (n := 2) rfl rfl rfl (by repeat (first | exact At.head | apply At.tail)) Try.underlying25 rfl (by kernel_rfl) (by simp only [List.toList_toArray, List.drop_succ_cons, List.drop_zero, List.take_succ_cons, List.take_zero]; rfl) (by rfl) ?_)
    | ((with_reducible refine gate_dst (N := 34) rfl ?_); (try (refine gate_guard (by rfl) ?_; dsimp only)); refine fr_get H rfl rfl rfl (by repeat (first | exact At.head | apply At.tail)) Try.underlying3 rfl (by simp only [List.getElem?_toArray, List.getElem?_cons_succ, List.getElem?_cons_zero]; rfl) ?_)
    | ((with_reducible refine gate_dst (N := 39) rfl ?_); (try (refine gate_guard (by rfl) ?_; dsimp only)); refine fr_get H rfl rfl rfl (by repeat (first | exact At.head | apply At.tail)) Try.underlying4 rfl (by simp only [List.getElem?_toArray, List.getElem?_cons_succ, List.getElem?_cons_zero]; rfl) ?_)
    | fail)
  go_ret
  exact ⟨rfl, H.below⟩
end Go.Proofs.Ytbmfgcekglgliaa.G

namespace Go.Proofs.YtbmfgcekglgliaaRz
open Go.RowKit Go.Proofs.YtbmfgcekglgliaaW.PrintWords Go.Proofs.YtbmfgcekglgliaaW.PrintLast Go.Proofs.YtbmfgcekglgliaaW.PrintMore
open Go.Proofs.YtbmfgcekglgliaaEm (Fr Chg At Of Tr Keep Frs)
open Go.Proofs.YtbmfgcekglgliaaKr (Take)
set_option linter.unusedVariables false
theorem Fr.sub {M A : Nat → Prop} {w W : World} {bl bl' : List (Nat × Obj)} {p : World → Prop} (h : Fr M A w W bl p) (hs : ∀ x, x ∈ bl' → x ∈ bl) (nd : bl'.Pairwise (fun x y => x.1 ≠ y.1)) : Fr M A w W bl' p :=
  ⟨h.av, h.chg, fun x hx => h.blk x (hs x hx), nd, Tr.less h.tr (fun k _ q => q.imp id (fun ⟨x, hx, e⟩ => ⟨x, hs x hx, e⟩))⟩
theorem Fr.sublist {M A : Nat → Prop} {w W : World} {bl bl' : List (Nat × Obj)} {p : World → Prop} (h : Fr M A w W bl p) (hs : bl'.Sublist bl) : Fr M A w W bl' p := Fr.sub h (fun _ hx => hs.subset hx) (h.nd.sublist hs)
theorem Fr.front {M A : Nat → Prop} {w W : World} {bl bl' : List (Nat × Obj)} {p : World → Prop} {g : Nat} {o : Obj} (h : Fr M A w W bl p) (ht : Take bl g o bl') : Fr M A w W ((g, o) :: bl') p :=
  Fr.sub h (fun x hx => ht.perm.mem_iff.2 hx) (Go.Proofs.YtbmfgcekglgliaaKr.nd_perm ht.perm h.nd)
theorem Fr.only {M A : Nat → Prop} {w W : World} {bl bl' : List (Nat × Obj)} {p q : World → Prop} {g : Nat} {o : Obj} (h : Fr M A w W bl p) (ha : At bl g o o bl') (hp : ∀ W, p W → q W) : Frs M A w [(g, o)] q W :=
  (Fr.sub h (fun x hx => by rw [List.mem_singleton.1 hx]; exact ha.mem) (List.pairwise_singleton _ _)).imp hp
section
variable {P : Program} {ops : Array Oper} {Q : Exit → Act → World → Prop} {S : World → Prop} {ds : List Nat} {n i j k : Nat} {dn : List Nat} {a : Act} {w : World} {o oi oj ok : Oper} {rest ri rj rk : List (Nat × Oper)} {v : Value}
end
section
variable {P : Program} {ops : Array Oper} {Q : Exit → Act → World → Prop} {ds : List Nat} {n i : Nat} {dn : List Nat} {a : Act} {W : World} {o : Oper} {rest : List (Nat × Oper)} {v : Value} {M A M0 A0 : Nat → Prop} {w w0 : World} {bl bl' bl0 : List (Nat × Obj)} {p p0 : World → Prop}
end
end Go.Proofs.YtbmfgcekglgliaaRz

namespace Go.Proofs.Ytbmfgcekglgliaa.G
open Go.RowKit Go.Proofs.YtbmfgcekglgliaaW.PrintWords Go.Proofs.YtbmfgcekglgliaaW.PrintLast Go.Proofs.YtbmfgcekglgliaaW.PrintMore Go.Proofs.YtbmfgcekglgliaaPl Go.Proofs.YtbmfgcekglgliaaEm Go.Proofs.YtbmfgcekglgliaaKr
set_option linter.unusedVariables false
set_option linter.unusedSimpArgs false
theorem In_calls (x lo hi : Int) (w : World) : Calls Try.prog 17 #[.int .i64 x, .int .i64 lo, .int .i64 hi] w fun e w' => e = .returned (.bool (inP x lo hi)) ∧ w' = w := by
  obtain ⟨b, hb⟩ : ∃ b, decide (lo ≤ x) = b := ⟨_, rfl⟩
  obtain ⟨c, hc⟩ : ∃ c, decide (x ≤ hi) = c := ⟨_, rfl⟩
  have HI := Lib.hid (show inP x lo hi = (b && c) by unfold inP; rw [hb, hc])
  cases b <;> cases c
  all_goals
    go_enter Try.func17, Try.ntmps17
    go_wp2
    go_ret
    exact ⟨(by rw [HI.out]; try rfl), rfl⟩
def checkP (p : Par) : Bool := inP p.N 1 16 && inP p.F 0 ((p.N - 1) / 3) && inP p.D 0 16 && (inP p.Be 1 1099511627776 && inP p.Rho 0 (p.Be / 8) && inP p.De 0 (p.Be / 2) && inP p.Ji 0 p.De) && inP p.Eps 0 1099511627776 && inP p.Mu (p.Rho + 1) (p.Be / 4) && inP p.Ho (p.D + 2) 1048576 && inP p.Pu 1 1099511627776 && inP p.Se 1 1099511627776
theorem nodes_cases (p : Par) : inP p.N 1 16 = false ∨ (1 ≤ p.N ∧ p.N ≤ 16 ∧ inP p.N 1 16 = true ∧ inP p.F 0 ((p.N - 1) / 3) = false) ∨ (1 ≤ p.N ∧ p.N ≤ 16 ∧ inP p.N 1 16 = true ∧ inP p.F 0 ((p.N - 1) / 3) = true ∧ inP p.D 0 16 = false) ∨ (1 ≤ p.N ∧ p.N ≤ 16 ∧ 0 ≤ p.D ∧ p.D ≤ 16 ∧ inP p.N 1 16 = true ∧ inP p.F 0 ((p.N - 1) / 3) = true ∧ inP p.D 0 16 = true) := by
  cases h1 : inP p.N 1 16
  · exact .inl rfl
  · have b1 := in_bd h1
    cases h2 : inP p.F 0 ((p.N - 1) / 3)
    · exact .inr (.inl ⟨b1.1, b1.2, rfl, rfl⟩)
    · cases h3 : inP p.D 0 16
      · exact .inr (.inr (.inl ⟨b1.1, b1.2, rfl, rfl, rfl⟩))
      · have b3 := in_bd h3
        exact .inr (.inr (.inr ⟨b1.1, b1.2, b3.1, b3.2, rfl, rfl, rfl⟩))
theorem ways_cases (p : Par) : inP p.Be 1 1099511627776 = false ∨ (1 ≤ p.Be ∧ p.Be ≤ 1099511627776 ∧ inP p.Be 1 1099511627776 = true ∧ inP p.Rho 0 (p.Be / 8) = false) ∨ (1 ≤ p.Be ∧ p.Be ≤ 1099511627776 ∧ inP p.Be 1 1099511627776 = true ∧ inP p.Rho 0 (p.Be / 8) = true ∧ inP p.De 0 (p.Be / 2) = false) ∨
    (1 ≤ p.Be ∧ p.Be ≤ 1099511627776 ∧ inP p.Be 1 1099511627776 = true ∧ inP p.Rho 0 (p.Be / 8) = true ∧ inP p.De 0 (p.Be / 2) = true ∧ inP p.Ji 0 p.De = false) ∨ (1 ≤ p.Be ∧ p.Be ≤ 1099511627776 ∧ 0 ≤ p.Rho ∧ p.Rho ≤ 1099511627776 ∧ inP p.Be 1 1099511627776 = true ∧ inP p.Rho 0 (p.Be / 8) = true ∧ inP p.De 0 (p.Be / 2) = true ∧ inP p.Ji 0 p.De = true) := by
  cases h1 : inP p.Be 1 1099511627776
  · exact .inl rfl
  · have b1 := in_bd h1
    cases h2 : inP p.Rho 0 (p.Be / 8)
    · exact .inr (.inl ⟨b1.1, b1.2, rfl, rfl⟩)
    · have b2 := in_bd h2
      cases h3 : inP p.De 0 (p.Be / 2)
      · exact .inr (.inr (.inl ⟨b1.1, b1.2, rfl, rfl, rfl⟩))
      · cases h4 : inP p.Ji 0 p.De
        · exact .inr (.inr (.inr (.inl ⟨b1.1, b1.2, rfl, rfl, rfl, rfl⟩)))
        · exact .inr (.inr (.inr (.inr ⟨b1.1, b1.2, b2.1, by omega, rfl, rfl, rfl, rfl⟩)))
theorem rest_cases (p : Par) : inP p.Eps 0 1099511627776 = false ∨ (inP p.Eps 0 1099511627776 = true ∧ inP p.Mu (p.Rho + 1) (p.Be / 4) = false) ∨ (inP p.Eps 0 1099511627776 = true ∧ inP p.Mu (p.Rho + 1) (p.Be / 4) = true ∧ inP p.Ho (p.D + 2) 1048576 = false) ∨ (inP p.Eps 0 1099511627776 = true ∧ inP p.Mu (p.Rho + 1) (p.Be / 4) = true ∧ inP p.Ho (p.D + 2) 1048576 = true ∧ inP p.Pu 1 1099511627776 = false) ∨
    (inP p.Eps 0 1099511627776 = true ∧ inP p.Mu (p.Rho + 1) (p.Be / 4) = true ∧ inP p.Ho (p.D + 2) 1048576 = true ∧ inP p.Pu 1 1099511627776 = true ∧ inP p.Se 1 1099511627776 = false) ∨ (inP p.Eps 0 1099511627776 = true ∧ inP p.Mu (p.Rho + 1) (p.Be / 4) = true ∧ inP p.Ho (p.D + 2) 1048576 = true ∧ inP p.Pu 1 1099511627776 = true ∧ inP p.Se 1 1099511627776 = true) := by
  cases inP p.Eps 0 1099511627776 <;> cases inP p.Mu (p.Rho + 1) (p.Be / 4) <;> cases inP p.Ho (p.D + 2) 1048576 <;> cases inP p.Pu 1 1099511627776 <;> cases inP p.Se 1 1099511627776 <;> simp
set_option maxHeartbeats 8000000 in
set_option maxRecDepth 100000 in
theorem Check_calls (p : Par) (w : World) : Calls Try.prog 7 #[.agg #[.int .i64 p.N, .int .i64 p.F, .int .i64 p.D, .int .i64 p.Be, .int .i64 p.Rho, .int .i64 p.De, .int .i64 p.Ji, .int .i64 p.Eps, .int .i64 p.Mu, .int .i64 p.Ho, .int .i64 p.Pu, .int .i64 p.Se]] w fun e w' => e = .returned (.int .i64 (if checkP p = true then 0 else 1)) ∧ Below w.heap.size w w' := by
  obtain ⟨r, hr⟩ : ∃ r, checkP p = r := ⟨_, rfl⟩
  have HC : Hid (checkP p = r) := Lib.hid hr
  rw [hr]
  unfold checkP at hr
  rcases nodes_cases p with h1 | ⟨n1, n2, h1, h2⟩ | ⟨n1, n2, h1, h2, h3⟩ | ⟨n1, n2, n3, n4, h1, h2, h3⟩
  all_goals
    rcases ways_cases p with h5 | ⟨n5, n6, h5, h6⟩ | ⟨n5, n6, h5, h6, h7⟩ | ⟨n5, n6, h5, h6, h7, h8⟩ | ⟨n5, n6, n7, n8, h5, h6, h7, h8⟩
  all_goals first
    | (have g1 : inP p.D 0 16 = true := by assumption
       have g2 : inP p.Ji 0 p.De = true := by assumption
       rcases rest_cases p with h9 | ⟨h9, h10⟩ | ⟨h9, h10, h11⟩ | ⟨h9, h10, h11, h12⟩ | ⟨h9, h10, h11, h12, h13⟩ | ⟨h9, h10, h11, h12, h13⟩)
    | skip
  all_goals
    have e2 : r = true ∨ r = false := by cases r <;> simp
    have HR : Hid (r = true ∨ r = false) := Lib.hid e2
    clear e2
    simp only [*, Bool.true_and, Bool.and_true, Bool.false_and, Bool.and_false] at hr
    subst hr
    have H := Fr.start0 (M := fun _ => False) (A := fun _ => False) (w := w) (p := fun _ => True) (fun _ h => h.elim) (fun _ _ => trivial)
    go_enter Try.func7, Try.ntmps7
    go_wp2_with (first
      | ((with_reducible refine gate_dst (N := 1) rfl ?_); refine fr_box H rfl rfl rfl ?_; intro g1 w1 H1; clear H; have H := H1; clear H1)
      | ((with_reducible refine gate_dst (N := 6) rfl ?_); refine fr_get H rfl rfl rfl (by repeat (first | exact At.head | apply At.tail)) Try.underlying3 rfl (by simp only [List.getElem?_toArray, List.getElem?_cons_succ, List.getElem?_cons_zero]; rfl) ?_)
      | ((with_reducible refine gate_dst (N := 10) rfl ?_); (try (refine gate_guard (by rfl) ?_; dsimp only)); refine fr_get H rfl rfl rfl (by repeat (first | exact At.head | apply At.tail)) Try.underlying3 rfl (by simp only [List.getElem?_toArray, List.getElem?_cons_succ, List.getElem?_cons_zero]; rfl) ?_)
      | ((with_reducible refine gate_dst (N := 12) rfl ?_); (try (refine gate_guard (by rfl) ?_; dsimp only)); refine fr_get H rfl rfl rfl (by repeat (first | exact At.head | apply At.tail)) Try.underlying3 rfl (by simp only [List.getElem?_toArray, List.getElem?_cons_succ, List.getElem?_cons_zero]; rfl) ?_)
      | ((with_reducible refine gate_dst (N := 19) rfl ?_); (try (refine gate_guard (by rfl) ?_; dsimp only)); refine fr_get H rfl rfl rfl (by repeat (first | exact At.head | apply At.tail)) Try.underlying3 rfl (by simp only [List.getElem?_toArray, List.getElem?_cons_succ, List.getElem?_cons_zero]; rfl) ?_)
      | ((with_reducible refine gate_dst (N := 23) rfl ?_); refine fr_get H rfl rfl rfl (by repeat (first | exact At.head | apply At.tail)) Try.underlying3 rfl (by simp only [List.getElem?_toArray, List.getElem?_cons_succ, List.getElem?_cons_zero]; rfl) ?_)
      | ((with_reducible refine gate_dst (N := 27) rfl ?_); (try (refine gate_guard (by rfl) ?_; dsimp only)); refine fr_get H rfl rfl rfl (by repeat (first | exact At.head | apply At.tail)) Try.underlying3 rfl (by simp only [List.getElem?_toArray, List.getElem?_cons_succ, List.getElem?_cons_zero]; rfl) ?_)
      | ((with_reducible refine gate_dst (N := 29) rfl ?_); (try (refine gate_guard (by rfl) ?_; dsimp only)); refine fr_get H rfl rfl rfl (by repeat (first | exact At.head | apply At.tail)) Try.underlying3 rfl (by simp only [List.getElem?_toArray, List.getElem?_cons_succ, List.getElem?_cons_zero]; rfl) ?_)
      | ((with_reducible refine gate_dst (N := 35) rfl ?_); (try (refine gate_guard (by rfl) ?_; dsimp only)); refine fr_get H rfl rfl rfl (by repeat (first | exact At.head | apply At.tail)) Try.underlying3 rfl (by simp only [List.getElem?_toArray, List.getElem?_cons_succ, List.getElem?_cons_zero]; rfl) ?_)
      | ((with_reducible refine gate_dst (N := 37) rfl ?_); (try (refine gate_guard (by rfl) ?_; dsimp only)); refine fr_get H rfl rfl rfl (by repeat (first | exact At.head | apply At.tail)) Try.underlying3 rfl (by simp only [List.getElem?_toArray, List.getElem?_cons_succ, List.getElem?_cons_zero]; rfl) ?_)
      | ((with_reducible refine gate_dst (N := 43) rfl ?_); (try (refine gate_guard (by rfl) ?_; dsimp only)); refine fr_get H rfl rfl rfl (by repeat (first | exact At.head | apply At.tail)) Try.underlying3 rfl (by simp only [List.getElem?_toArray, List.getElem?_cons_succ, List.getElem?_cons_zero]; rfl) ?_)
      | ((with_reducible refine gate_dst (N := 45) rfl ?_); (try (refine gate_guard (by rfl) ?_; dsimp only)); refine fr_get H rfl rfl rfl (by repeat (first | exact At.head | apply At.tail)) Try.underlying3 rfl (by simp only [List.getElem?_toArray, List.getElem?_cons_succ, List.getElem?_cons_zero]; rfl) ?_)
      | ((with_reducible refine gate_dst (N := 56) rfl ?_); (try (refine gate_guard (by rfl) ?_; dsimp only)); refine fr_get H rfl rfl rfl (by repeat (first | exact At.head | apply At.tail)) Try.underlying3 rfl (by simp only [List.getElem?_toArray, List.getElem?_cons_succ, List.getElem?_cons_zero]; rfl) ?_)
      | ((with_reducible refine gate_dst (N := 62) rfl ?_); (try (refine gate_guard (by rfl) ?_; dsimp only)); refine fr_get H rfl rfl rfl (by repeat (first | exact At.head | apply At.tail)) Try.underlying3 rfl (by simp only [List.getElem?_toArray, List.getElem?_cons_succ, List.getElem?_cons_zero]; rfl) ?_)
      | ((with_reducible refine gate_dst (N := 64) rfl ?_); (try (refine gate_guard (by rfl) ?_; dsimp only)); refine fr_get H rfl rfl rfl (by repeat (first | exact At.head | apply At.tail)) Try.underlying3 rfl (by simp only [List.getElem?_toArray, List.getElem?_cons_succ, List.getElem?_cons_zero]; rfl) ?_)
      | ((with_reducible refine gate_dst (N := 67) rfl ?_); (try (refine gate_guard (by rfl) ?_; dsimp only)); refine fr_get H rfl rfl rfl (by repeat (first | exact At.head | apply At.tail)) Try.underlying3 rfl (by simp only [List.getElem?_toArray, List.getElem?_cons_succ, List.getElem?_cons_zero]; rfl) ?_)
      | ((with_reducible refine gate_dst (N := 74) rfl ?_); (try (refine gate_guard (by rfl) ?_; dsimp only)); refine fr_get H rfl rfl rfl (by repeat (first | exact At.head | apply At.tail)) Try.underlying3 rfl (by simp only [List.getElem?_toArray, List.getElem?_cons_succ, List.getElem?_cons_zero]; rfl) ?_)
      | ((with_reducible refine gate_dst (N := 76) rfl ?_); (try (refine gate_guard (by rfl) ?_; dsimp only)); refine fr_get H rfl rfl rfl (by repeat (first | exact At.head | apply At.tail)) Try.underlying3 rfl (by simp only [List.getElem?_toArray, List.getElem?_cons_succ, List.getElem?_cons_zero]; rfl) ?_)
      | ((with_reducible refine gate_dst (N := 83) rfl ?_); (try (refine gate_guard (by rfl) ?_; dsimp only)); refine fr_get H rfl rfl rfl (by repeat (first | exact At.head | apply At.tail)) Try.underlying3 rfl (by simp only [List.getElem?_toArray, List.getElem?_cons_succ, List.getElem?_cons_zero]; rfl) ?_)
      | ((with_reducible refine gate_dst (N := 89) rfl ?_); (try (refine gate_guard (by rfl) ?_; dsimp only)); refine fr_get H rfl rfl rfl (by repeat (first | exact At.head | apply At.tail)) Try.underlying3 rfl (by simp only [List.getElem?_toArray, List.getElem?_cons_succ, List.getElem?_cons_zero]; rfl) ?_)
      | (go_at_call 17; (with_reducible refine (In_calls _ _ _ _).mono ?_); rintro e w' ⟨rfl, rfl⟩)
      | fail)
    go_ret
    exact ⟨rfl, H.below⟩
end Go.Proofs.Ytbmfgcekglgliaa.G

namespace Go.Proofs.Ytbmfgcekglgliaa.G
open Go.RowKit Go.Proofs.YtbmfgcekglgliaaW.PrintWords Go.Proofs.YtbmfgcekglgliaaW.PrintLast Go.Proofs.YtbmfgcekglgliaaW.PrintMore Go.Proofs.YtbmfgcekglgliaaPl Go.Proofs.YtbmfgcekglgliaaEm Go.Proofs.YtbmfgcekglgliaaKr Go.Proofs.YtbmfgcekglgliaaRz Go.Proofs.Ytbmfgcekglgliaa.X
set_option linter.unusedVariables false
set_option linter.unusedSimpArgs false
theorem Beat_to (p : Par) (me : Int) (s : St) (A : Option Addr) (c g : Nat) (x : Inp) (Ah : Option Addr) (ch : Nat) (Ax : Option Addr) (ct : Nat) (w : World) (U : St) (hU : beatS p me s x = U) (hg : w.heap[g]? = some (.cells #[.int .i64 p.N, .int .i64 p.F, .int .i64 p.D, .int .i64 p.Be, .int .i64 p.Rho, .int .i64 p.De, .int .i64 p.Ji, .int .i64 p.Eps, .int .i64 p.Mu, .int .i64 p.Ho, .int .i64 p.Pu, .int .i64 p.Se, .int .i64 s.lo, .int .i64 s.hi, .int .i64 s.time, .bool s.set, .int .i64 s.held, .int .i64 s.hops, .bool s.good, .slice A s.tab.length c, .int .i64 s.st, .int .i64 s.sn, .int .i64 s.life, .int .i64 me] 52 (0, 0))) (hr : Tr (fun k => k = g) w (pR Ah x.heard Ax x.tab A s.tab)) (hl : x.heard.length ≤ 4096) (hlt : x.tab.length ≤ 4096) (hls : s.tab.length ≤ 4096) :
    Calls Try.prog 10 #[.pointer (some ⟨g, 0, none⟩), .agg #[.int .i64 x.ticks, .slice Ah x.heard.length ch, .bool x.ref, .int .i64 x.reading, .bool x.given, .slice Ax x.tab.length ct]] w fun e w' => ∃ A1 c1 A2 c2, e = .returned (.agg #[.int .i64 1, .int .i64 me, .int .i64 U.lo, .int .i64 U.hi, .int .i64 U.held, .int .i64 U.hops, .bool U.good, .bool (rdB p x), .int .i64 (snP p x).1, .int .i64 (snP p x).2, .int .i64 (pulseS p U), .int .i64 U.st, .int .i64 U.sn, .slice A2 U.tab.length c2]) ∧ w'.heap[g]? = some (.cells #[.int .i64 p.N, .int .i64 p.F, .int .i64 p.D, .int .i64 p.Be, .int .i64 p.Rho, .int .i64 p.De, .int .i64 p.Ji, .int .i64 p.Eps, .int .i64 p.Mu, .int .i64 p.Ho, .int .i64 p.Pu, .int .i64 p.Se, .int .i64 U.lo, .int .i64 U.hi, .int .i64 U.time, .bool U.set, .int .i64 U.held, .int .i64 U.hops, .bool U.good, .slice A1 U.tab.length c1, .int .i64 U.st, .int .i64 U.sn, .int .i64 U.life, .int .i64 me] 52 (0, 0)) ∧ w'.ownsRow w.heap.size 82 2 (.slice A1 U.tab.length c1) U.tab.length (flL U.tab) ∧ w'.ownsRow w.heap.size 82 2 (.slice A2 U.tab.length c2) U.tab.length (flL U.tab) ∧ (∀ a1 a2, A1 = some a1 → A2 = some a2 → a1.block ≠ a2.block) ∧ Chg (fun k => k = g) w w' := by
  subst hU
  exact Beat_calls p me s A c g x Ah ch Ax ct w hg hr hl hlt hls
theorem New_to (p : Par) (me : Int) (s : St) (A : Option Addr) (c : Nat) (w : World) (z : St) (hz : saneS p.D s = z) (hr : Kd.C k82 w A s.tab.length s.tab) (hl : s.tab.length ≤ 4096) :
    Calls Try.prog 9 #[.agg #[.int .i64 p.N, .int .i64 p.F, .int .i64 p.D, .int .i64 p.Be, .int .i64 p.Rho, .int .i64 p.De, .int .i64 p.Ji, .int .i64 p.Eps, .int .i64 p.Mu, .int .i64 p.Ho, .int .i64 p.Pu, .int .i64 p.Se], .int .i64 me, .agg #[.int .i64 s.lo, .int .i64 s.hi, .int .i64 s.time, .bool s.set, .int .i64 s.held, .int .i64 s.hops, .bool s.good, .slice A s.tab.length c, .int .i64 s.st, .int .i64 s.sn, .int .i64 s.life]] w fun e w' => ∃ g A' c', e = .returned (.pointer (some ⟨g, 0, none⟩)) ∧ w.heap.size ≤ g ∧ w'.heap[g]? = some (.cells #[.int .i64 p.N, .int .i64 p.F, .int .i64 p.D, .int .i64 p.Be, .int .i64 p.Rho, .int .i64 p.De, .int .i64 p.Ji, .int .i64 p.Eps, .int .i64 p.Mu, .int .i64 p.Ho, .int .i64 p.Pu, .int .i64 p.Se, .int .i64 z.lo, .int .i64 z.hi, .int .i64 z.time, .bool z.set, .int .i64 z.held, .int .i64 z.hops, .bool z.good, .slice A' z.tab.length c', .int .i64 z.st, .int .i64 z.sn, .int .i64 z.life, .int .i64 me] 52 (0, 0)) ∧ w'.ownsRow w.heap.size 82 2 (.slice A' z.tab.length c') z.tab.length (flL z.tab) ∧ (∀ ad, A' = some ad → ad.block ≠ g) ∧ Below w.heap.size w w' := by
  subst hz
  exact New_calls p me s A c w hr hl
theorem own_C {W : World} {b n c : Nat} {A : Option Addr} {l : List Lp} (h : W.ownsRow b 82 2 (.slice A n c) n (flL l)) (hn : l.length = n) : Kd.C k82 W A n l := by
  obtain ⟨A2, c2, e, _, h4, _⟩ := row_C h hn
  injection e with e1 e2 e3
  rw [e1]
  exact h4
theorem great_no {n : Nat} {y : InC} (h : greatP n [y] = false) : n ≤ 128 ∧ y.x.heard.length ≤ 40 ∧ y.x.tab.length ≤ 128 := by
  unfold greatP greatX at h
  simp only [Bool.or_eq_false_iff, List.any_cons, List.any_nil, decide_eq_false_iff_not] at h
  omega
end Go.Proofs.Ytbmfgcekglgliaa.G

namespace Go.Proofs.Ytbmfgcekglgliaa.G
open Go.RowKit Go.Proofs.YtbmfgcekglgliaaW.PrintWords Go.Proofs.YtbmfgcekglgliaaW.PrintLast Go.Proofs.YtbmfgcekglgliaaW.PrintMore Go.Proofs.YtbmfgcekglgliaaPl Go.Proofs.YtbmfgcekglgliaaEm Go.Proofs.YtbmfgcekglgliaaKr Go.Proofs.YtbmfgcekglgliaaRz Go.Proofs.Ytbmfgcekglgliaa.X
set_option linter.unusedVariables false
set_option linter.unusedSimpArgs false
def fit0 (N me : Int) (h : Hd) : Bool := (h.kind == 1) && decide (0 ≤ h.frm) && decide (h.frm < (if 16 < N then 16 else N)) && (h.frm != me)
theorem addT_fit {N me : Int} {out : List Hb} {h : Hd} (hn : ∀ x ∈ unB out, x.frm ≠ h.frm) : unB (addT N me out h) = unB out ++ (if fit0 N me h = true then [h] else []) := by
  have e : fitH N me out h = fit0 N me h := by
    have h1 : (unB out).any (fun x => x.frm == h.frm) = false := List.any_eq_false.2 (fun x hx => by simpa using hn x hx)
    unfold fitH fit0
    rw [h1, Bool.not_false, Bool.and_true]
  unfold addT
  by_cases g : fitH N me out h = true
  · rw [dif_pos g, if_pos (e ▸ g)]
    unfold unB
    rw [List.map_append]
    rfl
  · rw [dif_neg g, if_neg (e ▸ g), List.append_nil]
theorem firsts_filter (N me : Int) : ∀ (l : List Hd) (out : List Hb), ((unB out ++ l).map (·.frm)).Nodup → unB (l.foldl (addT N me) out) = unB out ++ l.filter (fit0 N me)
  | [], out, _ => by simp
  | h :: l, out, hn => by
    have hn1 : ∀ x ∈ unB out, x.frm ≠ h.frm := by
      intro x hx e
      rw [List.map_append, List.map_cons, List.nodup_append] at hn
      exact hn.2.2 _ (List.mem_map.2 ⟨x, hx, rfl⟩) _ List.mem_cons_self e
    have h1 := addT_fit (N := N) (me := me) hn1
    rw [List.foldl_cons, firsts_filter N me l (addT N me out h) ?_, h1]
    · by_cases g : fit0 N me h = true
      · rw [if_pos g, List.filter_cons_of_pos g, List.append_assoc]; rfl
      · rw [if_neg g, List.filter_cons_of_neg g, List.append_nil]
    · rw [h1]
      by_cases g : fit0 N me h = true
      · rw [if_pos g, List.append_assoc]; exact hn
      · rw [if_neg g, List.append_nil]
        refine hn.sublist ?_
        rw [List.map_append, List.map_append]
        exact List.Sublist.append_left (List.sublist_cons_self _ _) _
theorem told_perm {N me : Int} {l : List Hd} (hn : (l.map (·.frm)).Nodup) : (unB (told N me l)).Perm (l.filter (fit0 N me)) := by
  have h1 : (unB (told N me l)).Perm (unB (firsts N me l)) := ((sortB_spec (firsts N me l)).1).map _
  have h2 := firsts_filter N me l [] hn
  unfold firsts at h1
  rw [h2] at h1
  exact h1
theorem waysOf_perm {p : Par} {l l' : List Hd} (h : l.Perm l') : (waysOf p l).Perm (waysOf p l') := (h.filter _).map _
theorem waysOf_append (p : Par) (l l' : List Hd) : waysOf p (l ++ l') = waysOf p l ++ waysOf p l' := by unfold waysOf; rw [List.filter_append, List.map_append]
structure Tl where
  err : Int
  way : Int
  off : Int
def tl0 : Tl := ⟨0, 0, 0⟩
def rightH (p : Par) (now : Int) (i : Nat) (x : Tl) : Hd := ⟨1, i, 0, 0, 0, 0, false, true, now + x.err - p.Eps, now + x.err + p.Eps, 0, 0, 0, none, 0, 0, p.Be - x.way + x.off⟩
def rightsK (p : Par) (now : Int) (l : List Tl) (k : Nat) : List Hd := (List.range (k - 1)).map (fun i => rightH p now (i + 1) (l.getD (i + 1) tl0))
theorem rightsK_succ (p : Par) (now : Int) (l : List Tl) (k : Nat) (hk : 1 ≤ k) : rightsK p now l (k + 1) = rightsK p now l k ++ [rightH p now k (l.getD k tl0)] := by
  unfold rightsK
  obtain ⟨j, rfl⟩ : ∃ j, k = j + 1 := ⟨k - 1, by omega⟩
  rw [Nat.add_sub_cancel, Nat.add_sub_cancel, List.range_succ, List.map_append]
  rfl
def liesK (m : Nat) (l : List Hd) (k : Nat) : List Hd := (l.take k).mapIdx (fun j h => { h with frm := (m : Int) + j })
theorem liesK_succ (m : Nat) (l : List Hd) (k : Nat) (hk : k < l.length) : liesK m l (k + 1) = liesK m l k ++ [{ l[k] with frm := (m : Int) + k }] := by
  unfold liesK
  rw [List.take_succ_eq_append_getElem hk, List.mapIdx_append]
  simp
  omega
theorem froms (p : Par) (now : Int) (l : List Tl) (m : Nat) (lies : List Hd) (hm : 1 ≤ m) : (rightsK p now l m ++ liesK m lies lies.length).map (·.frm) = (List.range (m - 1 + lies.length)).map (fun i : Nat => ((i : Int) + 1)) := by
  apply List.ext_getElem
  · simp [rightsK, liesK]
  · intro i h1 h2
    simp only [List.getElem_map, List.getElem_range]
    by_cases hi : i < m - 1
    · rw [List.getElem_append_left (by simp [rightsK]; exact hi)]
      simp [rightsK, rightH]
    · rw [List.getElem_append_right (by simp [rightsK]; omega)]
      simp [rightsK, liesK]
      omega
theorem froms_nodup (p : Par) (now : Int) (l : List Tl) (m : Nat) (lies : List Hd) (hm : 1 ≤ m) : ((rightsK p now l m ++ liesK m lies lies.length).map (·.frm)).Nodup := by
  rw [froms p now l m lies hm]
  exact List.Pairwise.map _ (fun a b h h' => h (by have h2 : (a : Int) + 1 = b + 1 := h'; omega)) List.nodup_range
def okT (p : Par) (x : Tl) : Prop := -p.Eps ≤ x.err ∧ x.err ≤ p.Eps ∧ x.way ≤ p.De ∧ p.De - p.Ji ≤ x.way ∧ -p.Rho ≤ x.off ∧ x.off ≤ p.Rho
theorem smul_two {a : Int} (h0 : 0 ≤ a) (h1 : a ≤ 1152921504606846976) : smul 2 a = 2 * a := by
  have e1 : sabs 2 = 2 := by unfold sabs; rw [if_neg (by omega), clip_id (by omega) (by omega)]
  have e2 : sabs a = a := by unfold sabs; rw [if_neg (by omega), clip_id (by omega) (by omega)]
  unfold smul
  rw [e1, e2]
  show (if decide ((2 : Int) < 0) = decide (a < 0) then (if (2 : Int) = 0 ∨ a ≤ 2305843009213693952 / 2 then 2 * a else 2305843009213693952) else -(if (2 : Int) = 0 ∨ a ≤ 2305843009213693952 / 2 then 2 * a else 2305843009213693952)) = 2 * a
  rw [if_pos (by rw [decide_eq_false (by omega), decide_eq_false (by omega)]), if_pos (Or.inr (by omega))]
theorem hopP_is {p : Par} (hb : 1 ≤ p.Be ∧ p.Be ≤ 1099511627776) (hr : 0 ≤ p.Rho ∧ p.Rho ≤ p.Be) (hj : 0 ≤ p.Ji ∧ p.Ji ≤ p.Be) : hopP p = p.Ji + 2 * p.Rho := by
  unfold hopP
  rw [smul_two (by omega) (by omega), sadd_two (by omega) (by omega) (by omega)]
theorem right_hon {p : Par} {now : Int} {i : Nat} {x : Tl} (hb : 1 ≤ p.Be ∧ p.Be ≤ 1099511627776) (hr : 0 ≤ p.Rho ∧ p.Rho ≤ p.Be) (hd : 0 ≤ p.De ∧ p.De ≤ p.Be) (hj : 0 ≤ p.Ji ∧ p.Ji ≤ p.De) (he : 0 ≤ p.Eps ∧ p.Eps ≤ 1099511627776) (hn : -1125899906842624 ≤ now ∧ now ≤ 1125899906842624) (hx : okT p x) :
    hon (now + p.Be) (2 * p.Eps + (p.Ji + 2 * p.Rho)) (wayOf p (rightH p now i x)) := by
  obtain ⟨x1, x2, x3, x4, x5, x6⟩ := hx
  have e1 : ssub p.De p.Ji = p.De - p.Ji := ssub_id (by omega) (by omega) (by omega)
  have e2 : sneg p.Rho = -p.Rho := by unfold sneg; rw [clip_id (by omega) (by omega)]
  have e3 : sadd [p.De - p.Ji, p.Be - x.way + x.off, -p.Rho] = p.De - p.Ji + (p.Be - x.way + x.off) + -p.Rho := sadd_three (by omega) (by omega) (by omega) (by omega) (by omega)
  have e4 : sadd [p.De, p.Be - x.way + x.off, p.Rho] = p.De + (p.Be - x.way + x.off) + p.Rho := sadd_three (by omega) (by omega) (by omega) (by omega) (by omega)
  have f1 : (wayOf p (rightH p now i x)).f0 = now + x.err - p.Eps + (p.De - p.Ji + (p.Be - x.way + x.off) + -p.Rho) := by
    show sadd [now + x.err - p.Eps, sadd [ssub p.De p.Ji, p.Be - x.way + x.off, sneg p.Rho]] = _
    rw [e1, e2, e3, sadd_two (by omega) (by omega) (by omega)]
  have f2 : (wayOf p (rightH p now i x)).f1 = now + x.err + p.Eps + (p.De + (p.Be - x.way + x.off) + p.Rho) := by
    show sadd [now + x.err + p.Eps, sadd [p.De, p.Be - x.way + x.off, p.Rho]] = _
    rw [e4, sadd_two (by omega) (by omega) (by omega)]
  unfold hon
  rw [f1, f2]
  omega
theorem holds (p : Par) (s : St) (now err : Int) (l : List Tl) (lies : List Hd) (x : Inp) (hck : (1 ≤ p.N ∧ p.N ≤ 16) ∧ (0 ≤ p.F ∧ p.F ≤ (p.N - 1) / 3) ∧ (0 ≤ p.D ∧ p.D ≤ 16) ∧ (1 ≤ p.Be ∧ p.Be ≤ 1099511627776) ∧ (0 ≤ p.Rho ∧ p.Rho ≤ p.Be / 8) ∧ (0 ≤ p.De ∧ p.De ≤ p.Be / 2) ∧ (0 ≤ p.Ji ∧ p.Ji ≤ p.De) ∧ (0 ≤ p.Eps ∧ p.Eps ≤ 1099511627776) ∧ (p.Rho + 1 ≤ p.Mu ∧ p.Mu ≤ p.Be / 4) ∧ (p.D + 2 ≤ p.Ho ∧ p.Ho ≤ 1048576) ∧ (1 ≤ p.Pu ∧ p.Pu ≤ 1099511627776))
    (hn : -1125899906842624 ≤ now ∧ now ≤ 1125899906842624) (hl : (l.length : Int) = p.N - p.F) (hz : (lies.length : Int) ≤ p.F) (he : -p.Rho ≤ err ∧ err ≤ p.Rho) (ho : ∀ y ∈ l, okT p y)
    (hx : x = ⟨p.Be + err, rightsK p now l l.length ++ liesK l.length lies lies.length, true, now + p.Be + (l.getD 0 tl0).err, false, []⟩) :
    (beatS0 p 0 (saneS p.D s) x).lo ≤ now + p.Be ∧ now + p.Be ≤ (beatS0 p 0 (saneS p.D s) x).hi ∧ (beatS0 p 0 (saneS p.D s) x).hi - (beatS0 p 0 (saneS p.D s) x).lo ≤ 2 * p.Eps + hopP p ∧ (beatS0 p 0 (saneS p.D s) x).held = 0 ∧ ofP p (beatS0 p 0 (saneS p.D s) x).set (beatS0 p 0 (saneS p.D s) x).good (beatS0 p 0 (saneS p.D s) x).held (beatS0 p 0 (saneS p.D s) x).hops = 1 ∧ rdB p x = true ∧
    -2305843009213693952 ≤ (beatS0 p 0 (saneS p.D s) x).lo ∧ (beatS0 p 0 (saneS p.D s) x).hi ≤ 2305843009213693952 ∧ hopP p = p.Ji + 2 * p.Rho ∧
    (ofP p (saneS p.D s).set (saneS p.D s).good (saneS p.D s).held (saneS p.D s).hops = 0 → (beatS0 p 0 (saneS p.D s) x).lo ≤ (beatS0 p 0 (saneS p.D s) x).time ∧ (beatS0 p 0 (saneS p.D s) x).time ≤ (beatS0 p 0 (saneS p.D s) x).hi) := by
  obtain ⟨cN, cF, cD, cB, cR, cDe, cJ, cE, cM, cH, cP⟩ := hck
  have hm1 : 1 ≤ l.length := by omega
  have hop := hopP_is (p := p) cB (by omega) (by omega)
  obtain ⟨y0, hy0⟩ : ∃ y, l.getD 0 tl0 = y := ⟨_, rfl⟩
  have hy : okT p y0 := by
    rw [← hy0]
    apply ho
    have : 0 < l.length := by omega
    rw [List.getD_eq_getElem?_getD, List.getElem?_eq_getElem this]
    exact List.getElem_mem this
  rw [hy0] at hx
  obtain ⟨o1, o2, o3, o4, o5, o6⟩ := hy
  have hsn : seenB p (now + p.Be + y0.err) = true := by
    unfold seenB
    rw [decide_eq_true (show now + p.Be + y0.err ≤ 1152921504606846976 by omega), decide_eq_true (show -1152921504606846976 ≤ now + p.Be + y0.err by omega), decide_eq_true cE.1]
    rfl
  have hrd : rdB p x = true := by
    rw [hx]
    unfold rdB
    rw [hsn]
    rfl
  have hseen : seenL p x = [⟨now + p.Be + y0.err - p.Eps, now + p.Be + y0.err + p.Eps⟩] := by
    unfold seenL snP
    rw [if_pos hrd, hx]
    dsimp only
    unfold seenP
    rw [if_pos hsn, ssub_id (by omega) (by omega) (by omega), sadd_two (by omega) (by omega) (by omega)]
    rw [hx] at hrd
    rw [if_pos hrd]
  have hfit : (rightsK p now l l.length).filter (fit0 p.N 0) = rightsK p now l l.length := by
    rw [List.filter_eq_self]
    intro h hh
    obtain ⟨i, hi, rfl⟩ := List.mem_map.1 hh
    have hi' := List.mem_range.1 hi
    unfold fit0 rightH
    dsimp only
    have a1 : decide ((0 : Int) ≤ ((i + 1 : Nat) : Int)) = true := decide_eq_true (by omega)
    have a2 : decide (((i + 1 : Nat) : Int) < (if 16 < p.N then 16 else p.N)) = true := decide_eq_true (by split <;> omega)
    have a3 : (((i + 1 : Nat) : Int) != 0) = true := by simp; omega
    rw [a1, a2, a3]
    rfl
  have hways : waysOf p (rightsK p now l l.length) = (rightsK p now l l.length).map (wayOf p) := by
    unfold waysOf
    congr 1
    rw [List.filter_eq_self]
    intro h hh
    obtain ⟨i, hi, rfl⟩ := List.mem_map.1 hh
    rfl
  obtain ⟨z, hzz⟩ : ∃ z, waysOf p ((liesK l.length lies lies.length).filter (fit0 p.N 0)) = z := ⟨_, rfl⟩
  have hzl : (z.length : Int) ≤ p.F := by
    have h1 : z.length ≤ lies.length := by
      rw [← hzz]
      unfold waysOf
      rw [List.length_map]
      refine Nat.le_trans (List.length_filter_le _ _) (Nat.le_trans (List.length_filter_le _ _) ?_)
      unfold liesK
      rw [List.length_mapIdx, List.length_take]
      omega
    omega
  have hperm : (spansP p 0 x).Perm (z ++ (⟨now + p.Be + y0.err - p.Eps, now + p.Be + y0.err + p.Eps⟩ :: (rightsK p now l l.length).map (wayOf p))) := by
    unfold spansP
    rw [hseen]
    have h1 : (waysOf p (unB (told p.N 0 x.heard))).Perm ((rightsK p now l l.length).map (wayOf p) ++ z) := by
      have h2 : x.heard = rightsK p now l l.length ++ liesK l.length lies lies.length := by rw [hx]
      rw [h2]
      refine (waysOf_perm (told_perm (froms_nodup p now l l.length lies hm1))).trans ?_
      rw [List.filter_append, hfit, waysOf_append, hways, hzz]
    refine (List.Perm.append_left _ h1).trans ?_
    have h3 := List.perm_append_comm (l₁ := (⟨now + p.Be + y0.err - p.Eps, now + p.Be + y0.err + p.Eps⟩ : Sp) :: (rightsK p now l l.length).map (wayOf p)) (l₂ := z)
    exact h3
  obtain ⟨lo, hi, hfu, q1, q2, q3, q4, q5⟩ := hon_fuse p.F (now + p.Be) (2 * p.Eps + (p.Ji + 2 * p.Rho)) z (⟨now + p.Be + y0.err - p.Eps, now + p.Be + y0.err + p.Eps⟩ :: (rightsK p now l l.length).map (wayOf p)) cF.1 hzl (by
    rw [List.length_cons, List.length_map]
    unfold rightsK
    rw [List.length_map, List.length_range]
    omega) (by
    intro s hs
    rcases List.mem_cons.1 hs with rfl | hs
    · unfold hon
      dsimp only
      omega
    · obtain ⟨h, hh, rfl⟩ := List.mem_map.1 hs
      obtain ⟨i, hi, rfl⟩ := List.mem_map.1 hh
      have hi' := List.mem_range.1 hi
      refine right_hon cB (by omega) (by omega) cJ cE hn (ho _ ?_)
      have hlt : i + 1 < l.length := by omega
      rw [List.getD_eq_getElem?_getD, List.getElem?_eq_getElem hlt]
      exact List.getElem_mem hlt) (by omega) (by omega)
  have hfu2 : fuse p.F (spansP p 0 x) = (lo, hi, true) := by rw [fuse_perm hperm, hfu]
  obtain ⟨b1, b2, b3, b4, b5⟩ := beat_fused (p := p) (me := 0) (s := saneS p.D s) hfu2
  have b6 : (beatS0 p 0 (saneS p.D s) x).hops = 0 := by rw [b4]; exact bound_zero (by rw [sadd_two (by omega) (by omega) (by omega)]; omega)
  have b7 : (beatS0 p 0 (saneS p.D s) x).set = true := rfl
  refine ⟨by rw [b1]; exact q1, by rw [b2]; exact q2, by rw [b1, b2, hop]; exact q3, b3, ?_, hrd, by rw [b1]; exact q4, by rw [b2]; exact q5, hop, fun hbt => ?_⟩
  · rw [b3, b5, b6, b7]
    unfold ofP
    rw [if_neg (by simp; omega), if_neg (by omega)]
  · have e1 : (nextS p 0 (saneS p.D s) x).lo = lo := by unfold nextS; dsimp only; rw [hfu2]; rfl
    have e2 : (nextS p 0 (saneS p.D s) x).hi = hi := by unfold nextS; dsimp only; rw [hfu2]; rfl
    have e3 : (beatS0 p 0 (saneS p.D s) x).time = clip (midP lo hi) := by
      show stepTime p (saneS p.D s) x.ticks (nextS p 0 (saneS p.D s) x) = _
      unfold stepTime slewP
      rw [e1, e2]
      have hj : jumpP p (saneS p.D s) x.ticks (nextS p 0 (saneS p.D s) x) = true := by
        unfold jumpP
        rw [hbt]
        rfl
      rw [hj, Bool.true_or, if_pos rfl]
    rw [b1, b2, e3]
    have h1 : clip lo = lo := clip_id (by omega) (by omega)
    have h2 : clip hi = hi := clip_id (by omega) (by omega)
    have h3 : lo ≤ midP lo hi ∧ midP lo hi ≤ hi := by
      unfold midP
      rw [h1, h2]
      omega
    rw [clip_id (by omega) (by omega)]
    exact h3
end Go.Proofs.Ytbmfgcekglgliaa.G
