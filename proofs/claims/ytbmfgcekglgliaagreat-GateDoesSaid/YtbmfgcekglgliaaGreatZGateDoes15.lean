/- Texts Gz, Rq, Gz1, Yo, in one file, without what is not needed here. -/
import Derived.Test.YtbmfgcekglgliaaGreatZGateDoes14
namespace Go.Proofs.YtbmfgcekglgliaaGreat.G
open Go.RowKit Go.Proofs.YtbmfgcekglgliaaGreatW.PrintWords Go.Proofs.YtbmfgcekglgliaaGreatW.PrintLast Go.Proofs.YtbmfgcekglgliaaGreatW.PrintMore Go.Proofs.YtbmfgcekglgliaaGreatPl Go.Proofs.YtbmfgcekglgliaaGreatEm Go.Proofs.YtbmfgcekglgliaaGreatKr Go.Proofs.YtbmfgcekglgliaaGreatRz Go.Proofs.YtbmfgcekglgliaaGreat.X
open Go.Proofs.YtbmfgcekglgliaaGreat.So (srt least has srt_length)
set_option linter.unusedVariables false
set_option linter.unusedSimpArgs false
theorem Fr.fresh {M A : Nat → Prop} {w W W1 : World} {bl : List (Nat × Obj)} {p : World → Prop} {g : Nat} {ob : Obj} (h : Fr M A w W bl p) (hg : W.heap.size ≤ g) (hb : W1.heap[g]? = some ob) (hB : Below W.heap.size W W1) :
    Fr M A w W1 ((g, ob) :: bl) p := by
  refine ⟨h.av, h.chg.trans (Chg.of_below hB), ?_, ?_, ?_⟩
  · intro x hx
    rcases List.mem_cons.1 hx with rfl | hx
    · exact ⟨hb, .inl (Nat.le_trans h.chg.size hg)⟩
    · obtain ⟨h1, h2⟩ := h.blk x hx
      exact ⟨(hB.block _ (Go.Proofs.YtbmfgcekglgliaaGreatEm.obj_lt h1)).trans h1, h2⟩
  · refine List.Pairwise.cons ?_ h.nd
    intro x hx e
    have := Go.Proofs.YtbmfgcekglgliaaGreatEm.obj_lt (h.blk x hx).1
    have e' : g = x.1 := e
    omega
  · refine fun W' k => h.tr W' (fun j ha hj => (k j (fun q => ?_) (by have := hB.size; omega)).trans (hB.block j hj))
    rcases q with q | ⟨x, hx, e⟩
    · exact ha (.inl q)
    · rcases List.mem_cons.1 hx with rfl | hx
      · have e' : g = j := e
        omega
      · exact ha (.inr ⟨x, hx, e⟩)
theorem Fr.trAt {M A : Nat → Prop} {w W : World} {bl bl' : List (Nat × Obj)} {p : World → Prop} {g : Nat} {o : Obj} (h : Fr M A w W bl p) (ha : At bl g o o bl') : Tr (fun k => k = g) W p := Tr.less h.tr (fun k _ e => .inr ⟨_, ha.mem, e.symm⟩)
theorem Fr.freshRow {M A : Nat → Prop} {w W W1 : World} {bl : List (Nat × Obj)} {p : World → Prop} {g : Nat} {ob : Obj} {e : TypeId} {sz n c : Nat} {Ao : Option Addr} {xs : List Value} (h : Fr M A w W bl p) (hg : W.heap.size ≤ g) (hb : W1.heap[g]? = some ob) (hB : Below W.heap.size W W1)
    (ho : W1.ownsRow W.heap.size e sz (.slice Ao n c) n xs) (hne : ∀ ad, Ao = some ad → ad.block ≠ g) : Fr M A w W1 ((g, ob) :: bl) (fun W => p W ∧ W.ownsRow w.heap.size e sz (.slice Ao n c) n xs) := by
  refine (Fr.fresh h hg hb hB).and (Tr_own ho h.chg.size (fun k ad hk ha => ?_))
  have h1 := (own_lo ho ad ha).1
  rcases hk with hk | ⟨x, hx, e1⟩
  · have := h.av k hk
    have := h.chg.size
    omega
  · rcases List.mem_cons.1 hx with rfl | hx
    · have e2 : g = k := e1
      subst e2
      exact fun e3 => hne ad ha e3.symm
    · have := Go.Proofs.YtbmfgcekglgliaaGreatEm.obj_lt (h.blk x hx).1
      rw [e1] at this
      omega
theorem Fr.turnRow2 {M A : Nat → Prop} {w W W1 : World} {bl bl' : List (Nat × Obj)} {p : World → Prop} {g : Nat} {old new : Obj} {e e' : TypeId} {sz n sz' n' : Nat} {v v' : Value} {xs xs' : List Value} (h : Fr M A w W bl p) (ha : At bl g old new bl') (hb : W1.heap[g]? = some new) (hc : Chg (fun k => k = g) W W1) (ho : W1.ownsRow W.heap.size e sz v n xs) (ho' : W1.ownsRow W.heap.size e' sz' v' n' xs') : Fr M A w W1 bl' (fun W => (p W ∧ W.ownsRow w.heap.size e sz v n xs) ∧ W.ownsRow w.heap.size e' sz' v' n' xs') := by
  refine (Fr.turnRow h ha hb hc ho).and ?_
  have := (Fr.turnRow h ha hb hc ho').tr
  exact Foot.imp this (fun _ h => h.2)
structure InC where
  x : Inp
  Ah : Option Addr
  ch : Nat
  Ax : Option Addr
  ct : Nat
def encI (y : InC) : List Value := [.int .i64 y.x.ticks, .slice y.Ah y.x.heard.length y.ch, .bool y.x.ref, .int .i64 y.x.reading, .bool y.x.given, .slice y.Ax y.x.tab.length y.ct]
def RowI (w : World) (A : Option Addr) (l : List InC) : Prop := ∀ k (hk : k < l.length), (∃ ad, A = some ad ∧ ∀ j u, (encI l[k])[j]? = some u → w.cell? ((ad.add (k * 6)).add j) = some u) ∧ RowH w l[k].Ah l[k].x.heard
def greatX (x : Inp) : Bool := decide (40 < x.heard.length) || decide (128 < x.tab.length) || x.heard.any (fun h => decide (128 < h.n))
def greatP (n : Nat) (l : List InC) : Bool := decide (128 < n) || decide (12 < l.length) || l.any (fun y => greatX y.x)
theorem nat_dec {a : Nat} {n : Nat} {b : Bool} (h : decide (a < n) = b) : decide ((a : Int) < (n : Int)) = b := by rw [← h, Bool.eq_iff_iff]; simp
set_option maxRecDepth 100000 in
set_option maxHeartbeats 16000000 in
theorem great_calls (lo hi time : Int) (set : Bool) (held hops : Int) (good : Bool) (A : Option Addr) (n c : Nat) (st sn life : Int) (Ai : Option Addr) (ci : Nat) (l : List InC) (w : World) (hr : Tr (fun _ => False) w (fun W => RowI W Ai l)) (hl : l.length ≤ 9223372036854775807) (hh : ∀ y ∈ l, y.x.heard.length ≤ 9223372036854775807) :
    Calls Tryz.prog 6 #[.agg #[.int .i64 lo, .int .i64 hi, .int .i64 time, .bool set, .int .i64 held, .int .i64 hops, .bool good, .slice A n c, .int .i64 st, .int .i64 sn, .int .i64 life], .slice Ai l.length ci] w fun e w' => e = .returned (.bool (greatP n l)) ∧ Below w.heap.size w w' := by
  have H := Fr.start0 (M := fun _ => False) (A := fun _ => False) (w := w) (p := fun W => RowI W Ai l) (fun _ h => h.elim) hr
  obtain ⟨b1, h1⟩ : ∃ b, decide (128 < n) = b := ⟨_, rfl⟩
  obtain ⟨b2, h2⟩ : ∃ b, decide (12 < l.length) = b := ⟨_, rfl⟩
  have HG : Hid (greatP n l = (b1 || b2 || l.any (fun y => greatX y.x))) := Lib.hid (by unfold greatP; rw [h1, h2])
  have g1 : decide ((128 : Int) < (n : Int)) = b1 := nat_dec h1
  have g2 : decide ((12 : Int) < (l.length : Int)) = b2 := nat_dec h2
  obtain ⟨m, hm⟩ : ∃ m, l.length = m := ⟨_, rfl⟩
  have HM := Lib.hid hm
  have HH := Lib.hid hh
  rw [hm] at g2 hl ⊢
  clear hr hm h1 h2 hh
  go_enter Tryz.func6, Tryz.ntmps6
  cases b1 with
  | true =>
    go_wp2_with (first
      | ((with_reducible refine gate_dst (N := 2) rfl ?_); refine fr_box H rfl rfl rfl ?_; intro g2 w2 H1; clear H; have H := H1; clear H1)
      | ((with_reducible refine gate_dst (N := 10) rfl ?_); refine fr_get H rfl rfl rfl (by repeat (first | exact At.head | apply At.tail)) Tryz.underlying26 rfl (by simp only [List.getElem?_toArray, List.getElem?_cons_succ, List.getElem?_cons_zero]; rfl) ?_)
      | ((with_reducible refine gate_dst (N := 23) rfl ?_); refine fr_sub H (n := 6) rfl rfl rfl (by repeat (first | exact At.head | apply At.tail)) Tryz.underlying44 rfl (by kernel_rfl) (by simp only [List.toList_toArray, List.drop_succ_cons, List.drop_zero, List.take_succ_cons, List.take_zero]; rfl) (by rfl) ?_)
      | ((with_reducible refine gate_dst (N := 6) rfl ?_); refine fr_new H (N := 6) rfl rfl (cs := #[.int .i64 0, .slice none 0 0, .bool false, .int .i64 0, .bool false, .slice none 0 0]) (t := 44) ?hr ?_; (case hr => first | (go_simp; done) | (go_simp; rfl)); intro g6 w6 H1; clear H; have H := H1; clear H1)
      | ((with_reducible refine gate_store (t := 44) (p := 6) rfl ?_); refine fr_put H rfl rfl rfl rfl rfl (by repeat (first | exact At.head | apply At.tail)) (by rfl) (by kernel_rfl) (by simp [Value.oneCell']) ?_; intro w6_ H1; clear H; have H := H1; clear H1)
      | ((with_reducible refine gate_dst (N := 25) rfl ?_); refine fr_get H rfl rfl rfl (by repeat (first | exact At.head | apply At.tail)) Tryz.underlying42 rfl (by simp only [List.getElem?_toArray, List.getElem?_cons_succ, List.getElem?_cons_zero]; rfl) ?_)
      | ((with_reducible refine gate_dst (N := 30) rfl ?_); (try (refine gate_guard (by rfl) ?_; dsimp only)); refine fr_get H rfl rfl rfl (by repeat (first | exact At.head | apply At.tail)) Tryz.underlying26 rfl (by simp only [List.getElem?_toArray, List.getElem?_cons_succ, List.getElem?_cons_zero]; rfl) ?_)
      | ((with_reducible refine gate_dst (N := 35) rfl ?_); refine fr_get H rfl rfl rfl (by repeat (first | exact At.head | apply At.tail)) Tryz.underlying42 rfl (by simp only [List.getElem?_toArray, List.getElem?_cons_succ, List.getElem?_cons_zero]; rfl) ?_)
      | ((with_reducible refine gate_dst (N := 40) rfl ?_); refine fr_sub H (n := 15) rfl rfl rfl (by repeat (first | exact At.head | apply At.tail)) Tryz.underlying49 rfl (by kernel_rfl) (by simp only [List.toList_toArray, List.drop_succ_cons, List.drop_zero, List.take_succ_cons, List.take_zero]; rfl) (by rfl) ?_)
      | ((with_reducible refine gate_dst (N := 8) rfl ?_); refine fr_new H (N := 8) rfl rfl (cs := #[.int .i64 0, .int .i64 0, .int .i64 0, .int .i64 0, .int .i64 0, .int .i64 0, .bool false, .bool false, .int .i64 0, .int .i64 0, .int .i64 0, .int .i64 0, .int .i64 0, .slice none 0 0, .int .i64 0]) (t := 49) ?hr ?_; (case hr => first | (go_simp; done) | (go_simp; rfl)); intro g8 w8 H1; clear H; have H := H1; clear H1)
      | ((with_reducible refine gate_store (t := 49) (p := 8) rfl ?_); refine fr_put H rfl rfl rfl rfl rfl (by repeat (first | exact At.head | apply At.tail)) (by rfl) (by kernel_rfl) (by simp [Value.oneCell']) ?_; intro w8_ H1; clear H; have H := H1; clear H1)
      | ((with_reducible refine gate_dst (N := 43) rfl ?_); refine fr_get H rfl rfl rfl (by repeat (first | exact At.head | apply At.tail)) Tryz.underlying26 rfl (by simp only [List.getElem?_toArray, List.getElem?_cons_succ, List.getElem?_cons_zero]; rfl) ?_)
      | fail)
    go_ret
    exact ⟨by rw [HG.out]; rfl, H.below⟩
  | false =>
    cases b2 with
    | true =>
      go_wp2_with (first
        | ((with_reducible refine gate_dst (N := 2) rfl ?_); refine fr_box H rfl rfl rfl ?_; intro g2 w2 H1; clear H; have H := H1; clear H1)
        | ((with_reducible refine gate_dst (N := 10) rfl ?_); refine fr_get H rfl rfl rfl (by repeat (first | exact At.head | apply At.tail)) Tryz.underlying26 rfl (by simp only [List.getElem?_toArray, List.getElem?_cons_succ, List.getElem?_cons_zero]; rfl) ?_)
        | ((with_reducible refine gate_dst (N := 23) rfl ?_); refine fr_sub H (n := 6) rfl rfl rfl (by repeat (first | exact At.head | apply At.tail)) Tryz.underlying44 rfl (by kernel_rfl) (by simp only [List.toList_toArray, List.drop_succ_cons, List.drop_zero, List.take_succ_cons, List.take_zero]; rfl) (by rfl) ?_)
        | ((with_reducible refine gate_dst (N := 6) rfl ?_); refine fr_new H (N := 6) rfl rfl (cs := #[.int .i64 0, .slice none 0 0, .bool false, .int .i64 0, .bool false, .slice none 0 0]) (t := 44) ?hr ?_; (case hr => first | (go_simp; done) | (go_simp; rfl)); intro g6 w6 H1; clear H; have H := H1; clear H1)
        | ((with_reducible refine gate_store (t := 44) (p := 6) rfl ?_); refine fr_put H rfl rfl rfl rfl rfl (by repeat (first | exact At.head | apply At.tail)) (by rfl) (by kernel_rfl) (by simp [Value.oneCell']) ?_; intro w6_ H1; clear H; have H := H1; clear H1)
        | ((with_reducible refine gate_dst (N := 25) rfl ?_); refine fr_get H rfl rfl rfl (by repeat (first | exact At.head | apply At.tail)) Tryz.underlying42 rfl (by simp only [List.getElem?_toArray, List.getElem?_cons_succ, List.getElem?_cons_zero]; rfl) ?_)
        | ((with_reducible refine gate_dst (N := 30) rfl ?_); (try (refine gate_guard (by rfl) ?_; dsimp only)); refine fr_get H rfl rfl rfl (by repeat (first | exact At.head | apply At.tail)) Tryz.underlying26 rfl (by simp only [List.getElem?_toArray, List.getElem?_cons_succ, List.getElem?_cons_zero]; rfl) ?_)
        | ((with_reducible refine gate_dst (N := 35) rfl ?_); refine fr_get H rfl rfl rfl (by repeat (first | exact At.head | apply At.tail)) Tryz.underlying42 rfl (by simp only [List.getElem?_toArray, List.getElem?_cons_succ, List.getElem?_cons_zero]; rfl) ?_)
        | ((with_reducible refine gate_dst (N := 40) rfl ?_); refine fr_sub H (n := 15) rfl rfl rfl (by repeat (first | exact At.head | apply At.tail)) Tryz.underlying49 rfl (by kernel_rfl) (by simp only [List.toList_toArray, List.drop_succ_cons, List.drop_zero, List.take_succ_cons, List.take_zero]; rfl) (by rfl) ?_)
        | ((with_reducible refine gate_dst (N := 8) rfl ?_); refine fr_new H (N := 8) rfl rfl (cs := #[.int .i64 0, .int .i64 0, .int .i64 0, .int .i64 0, .int .i64 0, .int .i64 0, .bool false, .bool false, .int .i64 0, .int .i64 0, .int .i64 0, .int .i64 0, .int .i64 0, .slice none 0 0, .int .i64 0]) (t := 49) ?hr ?_; (case hr => first | (go_simp; done) | (go_simp; rfl)); intro g8 w8 H1; clear H; have H := H1; clear H1)
        | ((with_reducible refine gate_store (t := 49) (p := 8) rfl ?_); refine fr_put H rfl rfl rfl rfl rfl (by repeat (first | exact At.head | apply At.tail)) (by rfl) (by kernel_rfl) (by simp [Value.oneCell']) ?_; intro w8_ H1; clear H; have H := H1; clear H1)
        | ((with_reducible refine gate_dst (N := 43) rfl ?_); refine fr_get H rfl rfl rfl (by repeat (first | exact At.head | apply At.tail)) Tryz.underlying26 rfl (by simp only [List.getElem?_toArray, List.getElem?_cons_succ, List.getElem?_cons_zero]; rfl) ?_)
        | fail)
      go_ret
      exact ⟨by rw [HG.out]; rfl, H.below⟩
    | false =>
      go_wp2_with (first
        | ((with_reducible refine gate_dst (N := 2) rfl ?_); refine fr_box H rfl rfl rfl ?_; intro g2 w2 H1; clear H; have H := H1; clear H1)
        | ((with_reducible refine gate_dst (N := 10) rfl ?_); refine fr_get H rfl rfl rfl (by repeat (first | exact At.head | apply At.tail)) Tryz.underlying26 rfl (by simp only [List.getElem?_toArray, List.getElem?_cons_succ, List.getElem?_cons_zero]; rfl) ?_)
        | ((with_reducible refine gate_dst (N := 23) rfl ?_); refine fr_sub H (n := 6) rfl rfl rfl (by repeat (first | exact At.head | apply At.tail)) Tryz.underlying44 rfl (by kernel_rfl) (by simp only [List.toList_toArray, List.drop_succ_cons, List.drop_zero, List.take_succ_cons, List.take_zero]; rfl) (by rfl) ?_)
        | ((with_reducible refine gate_dst (N := 6) rfl ?_); refine fr_new H (N := 6) rfl rfl (cs := #[.int .i64 0, .slice none 0 0, .bool false, .int .i64 0, .bool false, .slice none 0 0]) (t := 44) ?hr ?_; (case hr => first | (go_simp; done) | (go_simp; rfl)); intro g6 w6 H1; clear H; have H := H1; clear H1)
        | ((with_reducible refine gate_store (t := 44) (p := 6) rfl ?_); refine fr_put H rfl rfl rfl rfl rfl (by repeat (first | exact At.head | apply At.tail)) (by rfl) (by kernel_rfl) (by simp [Value.oneCell']) ?_; intro w6_ H1; clear H; have H := H1; clear H1)
        | ((with_reducible refine gate_dst (N := 25) rfl ?_); refine fr_get H rfl rfl rfl (by repeat (first | exact At.head | apply At.tail)) Tryz.underlying42 rfl (by simp only [List.getElem?_toArray, List.getElem?_cons_succ, List.getElem?_cons_zero]; rfl) ?_)
        | ((with_reducible refine gate_dst (N := 30) rfl ?_); (try (refine gate_guard (by rfl) ?_; dsimp only)); refine fr_get H rfl rfl rfl (by repeat (first | exact At.head | apply At.tail)) Tryz.underlying26 rfl (by simp only [List.getElem?_toArray, List.getElem?_cons_succ, List.getElem?_cons_zero]; rfl) ?_)
        | ((with_reducible refine gate_dst (N := 35) rfl ?_); refine fr_get H rfl rfl rfl (by repeat (first | exact At.head | apply At.tail)) Tryz.underlying42 rfl (by simp only [List.getElem?_toArray, List.getElem?_cons_succ, List.getElem?_cons_zero]; rfl) ?_)
        | ((with_reducible refine gate_dst (N := 40) rfl ?_); refine fr_sub H (n := 15) rfl rfl rfl (by repeat (first | exact At.head | apply At.tail)) Tryz.underlying49 rfl (by kernel_rfl) (by simp only [List.toList_toArray, List.drop_succ_cons, List.drop_zero, List.take_succ_cons, List.take_zero]; rfl) (by rfl) ?_)
        | ((with_reducible refine gate_dst (N := 8) rfl ?_); refine fr_new H (N := 8) rfl rfl (cs := #[.int .i64 0, .int .i64 0, .int .i64 0, .int .i64 0, .int .i64 0, .int .i64 0, .bool false, .bool false, .int .i64 0, .int .i64 0, .int .i64 0, .int .i64 0, .int .i64 0, .slice none 0 0, .int .i64 0]) (t := 49) ?hr ?_; (case hr => first | (go_simp; done) | (go_simp; rfl)); intro g8 w8 H1; clear H; have H := H1; clear H1)
        | ((with_reducible refine gate_store (t := 49) (p := 8) rfl ?_); refine fr_put H rfl rfl rfl rfl rfl (by repeat (first | exact At.head | apply At.tail)) (by rfl) (by kernel_rfl) (by simp [Value.oneCell']) ?_; intro w8_ H1; clear H; have H := H1; clear H1)
        | ((with_reducible refine gate_dst (N := 43) rfl ?_); refine fr_get H rfl rfl rfl (by repeat (first | exact At.head | apply At.tail)) Tryz.underlying26 rfl (by simp only [List.getElem?_toArray, List.getElem?_cons_succ, List.getElem?_cons_zero]; rfl) ?_)
        | fail)
      go_loopw [20] (fun v20 wr => ∃ k : Nat, k ≤ m ∧ v20 = .int .i64 k ∧ Hid (∀ y ∈ l.take k, greatX y.x = false) ∧ Fr (fun _ => False) (fun _ => False) w wr [] (fun W => RowI W Ai l)) (fun v20 _ => m - (intOf v20).toNat)
      case atStart => exact ⟨0, by omega, rfl, Lib.hid (fun y hy => by simp at hy), H.drop⟩
      case round =>
        clear H
        obtain ⟨k, hk, rfl, HQ, H⟩ := hrel
        by_cases hlt : k < m
        · have hkl : k < l.length := by rw [HM.out]; exact hlt
          have hk1 : (k : Int) < (m : Int) := by omega
          have hs1 : -9223372036854775808 ≤ (k : Int) + 1 := by omega
          have hs2 : (k : Int) + 1 ≤ 9223372036854775807 := by omega
          obtain ⟨⟨ad, e, hx⟩, hrh⟩ := H.now k hkl
          cases e
          obtain ⟨y, hye⟩ : ∃ y, l[k] = y := ⟨_, rfl⟩
          have HT : Hid (l.take (k + 1) = l.take k ++ [y]) := Lib.hid (by rw [List.take_succ_eq_append_getElem hkl, hye])
          have HMEM : Hid (y ∈ l) := Lib.hid (hye ▸ List.getElem_mem hkl)
          have HRH : Hid (∀ W, RowI W (some ad) l → RowH W y.Ah y.x.heard) := Lib.hid (fun W h => by have := (h k hkl).2; rw [hye] at this; exact this)
          rw [hye] at hx hrh
          clear hye hrh
          obtain ⟨⟨ticks, heard, ref, reading, given, tab⟩, Ah, ch, Ax, ct⟩ := y
          have HC : Hid (∀ j u, [Value.int .i64 ticks, .slice Ah heard.length ch, .bool ref, .int .i64 reading, .bool given, .slice Ax tab.length ct][j]? = some u → wr.cell? ((ad.add (k * 6)).add j) = some u) := Lib.hid hx
          have hhl : heard.length ≤ 9223372036854775807 := HH.out _ HMEM.out
          obtain ⟨d1, e1⟩ : ∃ b, decide (40 < heard.length) = b := ⟨_, rfl⟩
          obtain ⟨d2, e2⟩ : ∃ b, decide (128 < tab.length) = b := ⟨_, rfl⟩
          have HX : Hid (greatX ⟨ticks, heard, ref, reading, given, tab⟩ = (d1 || d2 || heard.any (fun h => decide (128 < h.n)))) := Lib.hid (by unfold greatX; rw [e1, e2])
          have f1 : decide ((40 : Int) < (heard.length : Int)) = d1 := nat_dec e1
          have f2 : decide ((128 : Int) < (tab.length : Int)) = d2 := nat_dec e2
          obtain ⟨nh, hnh⟩ : ∃ x, heard.length = x := ⟨_, rfl⟩
          obtain ⟨nt, hnt⟩ : ∃ x, tab.length = x := ⟨_, rfl⟩
          have HNH := Lib.hid hnh
          rw [hnh] at HC hhl f1
          rw [hnt] at HC f2
          clear hx e1 e2 hnh hnt
          have HBAD : Hid (greatX ⟨ticks, heard, ref, reading, given, tab⟩ = true → greatP n l = true) := Lib.hid (fun h => by
            rw [HG.out, List.any_eq_true.2 ⟨_, HMEM.out, h⟩]; rfl)
          dsimp only at HRH
          cases d1 with
          | true =>
            go_wp2_with (first
              | ((with_reducible refine gate_dst (N := 23) rfl ?_); refine load_cells rfl rfl (ad := ad.add (k * 6)) (cs := [.int .i64 ticks, .slice Ah nh ch, .bool ref, .int .i64 reading, .bool given, .slice Ax nt ct]) ?hx Tryz.underlying44 rfl (by kernel_rfl) HC.out ?_; (case hx => first | rfl | (go_simp; done) | (go_simp; rfl)))
              | ((with_reducible refine gate_dst (N := 2) rfl ?_); refine fr_box H rfl rfl rfl ?_; intro g2 w2 H1; clear H; have H := H1; clear H1)
              | ((with_reducible refine gate_dst (N := 10) rfl ?_); refine fr_get H rfl rfl rfl (by repeat (first | exact At.head | apply At.tail)) Tryz.underlying26 rfl (by simp only [List.getElem?_toArray, List.getElem?_cons_succ, List.getElem?_cons_zero]; rfl) ?_)
              | ((with_reducible refine gate_dst (N := 23) rfl ?_); refine fr_sub H (n := 6) rfl rfl rfl (by repeat (first | exact At.head | apply At.tail)) Tryz.underlying44 rfl (by kernel_rfl) (by simp only [List.toList_toArray, List.drop_succ_cons, List.drop_zero, List.take_succ_cons, List.take_zero]; rfl) (by rfl) ?_)
              | ((with_reducible refine gate_dst (N := 6) rfl ?_); refine fr_new H (N := 6) rfl rfl (cs := #[.int .i64 0, .slice none 0 0, .bool false, .int .i64 0, .bool false, .slice none 0 0]) (t := 44) ?hr ?_; (case hr => first | (go_simp; done) | (go_simp; rfl)); intro g6 w6 H1; clear H; have H := H1; clear H1)
              | ((with_reducible refine gate_store (t := 44) (p := 6) rfl ?_); refine fr_put H rfl rfl rfl rfl rfl (by repeat (first | exact At.head | apply At.tail)) (by rfl) (by kernel_rfl) (by simp [Value.oneCell']) ?_; intro w6_ H1; clear H; have H := H1; clear H1)
              | ((with_reducible refine gate_dst (N := 25) rfl ?_); refine fr_get H rfl rfl rfl (by repeat (first | exact At.head | apply At.tail)) Tryz.underlying42 rfl (by simp only [List.getElem?_toArray, List.getElem?_cons_succ, List.getElem?_cons_zero]; rfl) ?_)
              | ((with_reducible refine gate_dst (N := 30) rfl ?_); (try (refine gate_guard (by rfl) ?_; dsimp only)); refine fr_get H rfl rfl rfl (by repeat (first | exact At.head | apply At.tail)) Tryz.underlying26 rfl (by simp only [List.getElem?_toArray, List.getElem?_cons_succ, List.getElem?_cons_zero]; rfl) ?_)
              | ((with_reducible refine gate_dst (N := 35) rfl ?_); refine fr_get H rfl rfl rfl (by repeat (first | exact At.head | apply At.tail)) Tryz.underlying42 rfl (by simp only [List.getElem?_toArray, List.getElem?_cons_succ, List.getElem?_cons_zero]; rfl) ?_)
              | ((with_reducible refine gate_dst (N := 40) rfl ?_); refine fr_sub H (n := 15) rfl rfl rfl (by repeat (first | exact At.head | apply At.tail)) Tryz.underlying49 rfl (by kernel_rfl) (by simp only [List.toList_toArray, List.drop_succ_cons, List.drop_zero, List.take_succ_cons, List.take_zero]; rfl) (by rfl) ?_)
              | ((with_reducible refine gate_dst (N := 8) rfl ?_); refine fr_new H (N := 8) rfl rfl (cs := #[.int .i64 0, .int .i64 0, .int .i64 0, .int .i64 0, .int .i64 0, .int .i64 0, .bool false, .bool false, .int .i64 0, .int .i64 0, .int .i64 0, .int .i64 0, .int .i64 0, .slice none 0 0, .int .i64 0]) (t := 49) ?hr ?_; (case hr => first | (go_simp; done) | (go_simp; rfl)); intro g8 w8 H1; clear H; have H := H1; clear H1)
              | ((with_reducible refine gate_store (t := 49) (p := 8) rfl ?_); refine fr_put H rfl rfl rfl rfl rfl (by repeat (first | exact At.head | apply At.tail)) (by rfl) (by kernel_rfl) (by simp [Value.oneCell']) ?_; intro w8_ H1; clear H; have H := H1; clear H1)
              | ((with_reducible refine gate_dst (N := 43) rfl ?_); refine fr_get H rfl rfl rfl (by repeat (first | exact At.head | apply At.tail)) Tryz.underlying26 rfl (by simp only [List.getElem?_toArray, List.getElem?_cons_succ, List.getElem?_cons_zero]; rfl) ?_)
              | fail)
            go_ret
            exact ⟨by rw [HBAD.out (by rw [HX.out]; rfl)]; rfl, H.below⟩
          | false =>
            cases d2 with
            | true =>
              go_wp2_with (first
                | ((with_reducible refine gate_dst (N := 23) rfl ?_); refine load_cells rfl rfl (ad := ad.add (k * 6)) (cs := [.int .i64 ticks, .slice Ah nh ch, .bool ref, .int .i64 reading, .bool given, .slice Ax nt ct]) ?hx Tryz.underlying44 rfl (by kernel_rfl) HC.out ?_; (case hx => first | rfl | (go_simp; done) | (go_simp; rfl)))
                | ((with_reducible refine gate_dst (N := 2) rfl ?_); refine fr_box H rfl rfl rfl ?_; intro g2 w2 H1; clear H; have H := H1; clear H1)
                | ((with_reducible refine gate_dst (N := 10) rfl ?_); refine fr_get H rfl rfl rfl (by repeat (first | exact At.head | apply At.tail)) Tryz.underlying26 rfl (by simp only [List.getElem?_toArray, List.getElem?_cons_succ, List.getElem?_cons_zero]; rfl) ?_)
                | ((with_reducible refine gate_dst (N := 23) rfl ?_); refine fr_sub H (n := 6) rfl rfl rfl (by repeat (first | exact At.head | apply At.tail)) Tryz.underlying44 rfl (by kernel_rfl) (by simp only [List.toList_toArray, List.drop_succ_cons, List.drop_zero, List.take_succ_cons, List.take_zero]; rfl) (by rfl) ?_)
                | ((with_reducible refine gate_dst (N := 6) rfl ?_); refine fr_new H (N := 6) rfl rfl (cs := #[.int .i64 0, .slice none 0 0, .bool false, .int .i64 0, .bool false, .slice none 0 0]) (t := 44) ?hr ?_; (case hr => first | (go_simp; done) | (go_simp; rfl)); intro g6 w6 H1; clear H; have H := H1; clear H1)
                | ((with_reducible refine gate_store (t := 44) (p := 6) rfl ?_); refine fr_put H rfl rfl rfl rfl rfl (by repeat (first | exact At.head | apply At.tail)) (by rfl) (by kernel_rfl) (by simp [Value.oneCell']) ?_; intro w6_ H1; clear H; have H := H1; clear H1)
                | ((with_reducible refine gate_dst (N := 25) rfl ?_); refine fr_get H rfl rfl rfl (by repeat (first | exact At.head | apply At.tail)) Tryz.underlying42 rfl (by simp only [List.getElem?_toArray, List.getElem?_cons_succ, List.getElem?_cons_zero]; rfl) ?_)
                | ((with_reducible refine gate_dst (N := 30) rfl ?_); (try (refine gate_guard (by rfl) ?_; dsimp only)); refine fr_get H rfl rfl rfl (by repeat (first | exact At.head | apply At.tail)) Tryz.underlying26 rfl (by simp only [List.getElem?_toArray, List.getElem?_cons_succ, List.getElem?_cons_zero]; rfl) ?_)
                | ((with_reducible refine gate_dst (N := 35) rfl ?_); refine fr_get H rfl rfl rfl (by repeat (first | exact At.head | apply At.tail)) Tryz.underlying42 rfl (by simp only [List.getElem?_toArray, List.getElem?_cons_succ, List.getElem?_cons_zero]; rfl) ?_)
                | ((with_reducible refine gate_dst (N := 40) rfl ?_); refine fr_sub H (n := 15) rfl rfl rfl (by repeat (first | exact At.head | apply At.tail)) Tryz.underlying49 rfl (by kernel_rfl) (by simp only [List.toList_toArray, List.drop_succ_cons, List.drop_zero, List.take_succ_cons, List.take_zero]; rfl) (by rfl) ?_)
                | ((with_reducible refine gate_dst (N := 8) rfl ?_); refine fr_new H (N := 8) rfl rfl (cs := #[.int .i64 0, .int .i64 0, .int .i64 0, .int .i64 0, .int .i64 0, .int .i64 0, .bool false, .bool false, .int .i64 0, .int .i64 0, .int .i64 0, .int .i64 0, .int .i64 0, .slice none 0 0, .int .i64 0]) (t := 49) ?hr ?_; (case hr => first | (go_simp; done) | (go_simp; rfl)); intro g8 w8 H1; clear H; have H := H1; clear H1)
                | ((with_reducible refine gate_store (t := 49) (p := 8) rfl ?_); refine fr_put H rfl rfl rfl rfl rfl (by repeat (first | exact At.head | apply At.tail)) (by rfl) (by kernel_rfl) (by simp [Value.oneCell']) ?_; intro w8_ H1; clear H; have H := H1; clear H1)
                | ((with_reducible refine gate_dst (N := 43) rfl ?_); refine fr_get H rfl rfl rfl (by repeat (first | exact At.head | apply At.tail)) Tryz.underlying26 rfl (by simp only [List.getElem?_toArray, List.getElem?_cons_succ, List.getElem?_cons_zero]; rfl) ?_)
                | fail)
              go_ret
              exact ⟨by rw [HBAD.out (by rw [HX.out]; rfl)]; rfl, H.below⟩
            | false =>
              go_wp2_with (first
                | ((with_reducible refine gate_dst (N := 23) rfl ?_); refine load_cells rfl rfl (ad := ad.add (k * 6)) (cs := [.int .i64 ticks, .slice Ah nh ch, .bool ref, .int .i64 reading, .bool given, .slice Ax nt ct]) ?hx Tryz.underlying44 rfl (by kernel_rfl) HC.out ?_; (case hx => first | rfl | (go_simp; done) | (go_simp; rfl)))
                | ((with_reducible refine gate_dst (N := 2) rfl ?_); refine fr_box H rfl rfl rfl ?_; intro g2 w2 H1; clear H; have H := H1; clear H1)
                | ((with_reducible refine gate_dst (N := 10) rfl ?_); refine fr_get H rfl rfl rfl (by repeat (first | exact At.head | apply At.tail)) Tryz.underlying26 rfl (by simp only [List.getElem?_toArray, List.getElem?_cons_succ, List.getElem?_cons_zero]; rfl) ?_)
                | ((with_reducible refine gate_dst (N := 23) rfl ?_); refine fr_sub H (n := 6) rfl rfl rfl (by repeat (first | exact At.head | apply At.tail)) Tryz.underlying44 rfl (by kernel_rfl) (by simp only [List.toList_toArray, List.drop_succ_cons, List.drop_zero, List.take_succ_cons, List.take_zero]; rfl) (by rfl) ?_)
                | ((with_reducible refine gate_dst (N := 6) rfl ?_); refine fr_new H (N := 6) rfl rfl (cs := #[.int .i64 0, .slice none 0 0, .bool false, .int .i64 0, .bool false, .slice none 0 0]) (t := 44) ?hr ?_; (case hr => first | (go_simp; done) | (go_simp; rfl)); intro g6 w6 H1; clear H; have H := H1; clear H1)
                | ((with_reducible refine gate_store (t := 44) (p := 6) rfl ?_); refine fr_put H rfl rfl rfl rfl rfl (by repeat (first | exact At.head | apply At.tail)) (by rfl) (by kernel_rfl) (by simp [Value.oneCell']) ?_; intro w6_ H1; clear H; have H := H1; clear H1)
                | ((with_reducible refine gate_dst (N := 25) rfl ?_); refine fr_get H rfl rfl rfl (by repeat (first | exact At.head | apply At.tail)) Tryz.underlying42 rfl (by simp only [List.getElem?_toArray, List.getElem?_cons_succ, List.getElem?_cons_zero]; rfl) ?_)
                | ((with_reducible refine gate_dst (N := 30) rfl ?_); (try (refine gate_guard (by rfl) ?_; dsimp only)); refine fr_get H rfl rfl rfl (by repeat (first | exact At.head | apply At.tail)) Tryz.underlying26 rfl (by simp only [List.getElem?_toArray, List.getElem?_cons_succ, List.getElem?_cons_zero]; rfl) ?_)
                | ((with_reducible refine gate_dst (N := 35) rfl ?_); refine fr_get H rfl rfl rfl (by repeat (first | exact At.head | apply At.tail)) Tryz.underlying42 rfl (by simp only [List.getElem?_toArray, List.getElem?_cons_succ, List.getElem?_cons_zero]; rfl) ?_)
                | ((with_reducible refine gate_dst (N := 40) rfl ?_); refine fr_sub H (n := 15) rfl rfl rfl (by repeat (first | exact At.head | apply At.tail)) Tryz.underlying49 rfl (by kernel_rfl) (by simp only [List.toList_toArray, List.drop_succ_cons, List.drop_zero, List.take_succ_cons, List.take_zero]; rfl) (by rfl) ?_)
                | ((with_reducible refine gate_dst (N := 8) rfl ?_); refine fr_new H (N := 8) rfl rfl (cs := #[.int .i64 0, .int .i64 0, .int .i64 0, .int .i64 0, .int .i64 0, .int .i64 0, .bool false, .bool false, .int .i64 0, .int .i64 0, .int .i64 0, .int .i64 0, .int .i64 0, .slice none 0 0, .int .i64 0]) (t := 49) ?hr ?_; (case hr => first | (go_simp; done) | (go_simp; rfl)); intro g8 w8 H1; clear H; have H := H1; clear H1)
                | ((with_reducible refine gate_store (t := 49) (p := 8) rfl ?_); refine fr_put H rfl rfl rfl rfl rfl (by repeat (first | exact At.head | apply At.tail)) (by rfl) (by kernel_rfl) (by simp [Value.oneCell']) ?_; intro w8_ H1; clear H; have H := H1; clear H1)
                | ((with_reducible refine gate_dst (N := 43) rfl ?_); refine fr_get H rfl rfl rfl (by repeat (first | exact At.head | apply At.tail)) Tryz.underlying26 rfl (by simp only [List.getElem?_toArray, List.getElem?_cons_succ, List.getElem?_cons_zero]; rfl) ?_)
                | fail)
              go_loopw [37] (fun v37 wr => ∃ j : Nat, j ≤ nh ∧ v37 = .int .i64 j ∧ Hid (∀ h ∈ heard.take j, decide (128 < h.n) = false) ∧ Fr (fun _ => False) (fun _ => False) w wr [] (fun W => RowI W (some ad) l)) (fun v37 _ => nh - (intOf v37).toNat)
              case atStart => exact ⟨0, by omega, rfl, Lib.hid (fun y hy => by simp at hy), H.drop⟩
              case round =>
                clear H HC
                obtain ⟨j, hj, rfl, HJ, H⟩ := hrel
                by_cases hjt : j < nh
                · have hjl : j < heard.length := by rw [HNH.out]; exact hjt
                  have hj1 : (j : Int) < (nh : Int) := by omega
                  have hs3 : -9223372036854775808 ≤ (j : Int) + 1 := by omega
                  have hs4 : (j : Int) + 1 ≤ 9223372036854775807 := by omega
                  obtain ⟨ad2, e2, hc2⟩ := HRH.out _ H.now j hjl
                  cases e2
                  obtain ⟨z, hze⟩ : ∃ z, heard[j] = z := ⟨_, rfl⟩
                  have HTJ : Hid (heard.take (j + 1) = heard.take j ++ [z]) := Lib.hid (by rw [List.take_succ_eq_append_getElem hjl, hze])
                  have HZM : Hid (z ∈ heard) := Lib.hid (hze ▸ List.getElem_mem hjl)
                  rw [hze] at hc2
                  clear hze
                  obtain ⟨kind, frm, mlo, mhi, mheld, mhops, mgood, mref, slo, shi, pulse, mst, msn, Am, nm, cm, age⟩ := z
                  have HC2 : Hid (∀ j2 u, [Value.int .i64 kind, .int .i64 frm, .int .i64 mlo, .int .i64 mhi, .int .i64 mheld, .int .i64 mhops, .bool mgood, .bool mref, .int .i64 slo, .int .i64 shi, .int .i64 pulse, .int .i64 mst, .int .i64 msn, .slice Am nm cm, .int .i64 age][j2]? = some u → wr.cell? ((ad2.add (j * 15)).add j2) = some u) := Lib.hid hc2
                  obtain ⟨d3, e3⟩ : ∃ b, decide (128 < nm) = b := ⟨_, rfl⟩
                  have f3 : decide ((128 : Int) < (nm : Int)) = d3 := nat_dec e3
                  have HE3 := Lib.hid e3
                  clear hc2 e3
                  cases d3 with
                  | true =>
                    go_wp2_with (first
                      | ((with_reducible refine gate_dst (N := 40) rfl ?_); refine load_cells rfl rfl (ad := ad2.add (j * 15)) (cs := [.int .i64 kind, .int .i64 frm, .int .i64 mlo, .int .i64 mhi, .int .i64 mheld, .int .i64 mhops, .bool mgood, .bool mref, .int .i64 slo, .int .i64 shi, .int .i64 pulse, .int .i64 mst, .int .i64 msn, .slice Am nm cm, .int .i64 age]) ?hx Tryz.underlying49 rfl (by kernel_rfl) HC2.out ?_; (case hx => first | rfl | (go_simp; done) | (go_simp; rfl)))
                      | ((with_reducible refine gate_dst (N := 2) rfl ?_); refine fr_box H rfl rfl rfl ?_; intro g2 w2 H1; clear H; have H := H1; clear H1)
                      | ((with_reducible refine gate_dst (N := 10) rfl ?_); refine fr_get H rfl rfl rfl (by repeat (first | exact At.head | apply At.tail)) Tryz.underlying26 rfl (by simp only [List.getElem?_toArray, List.getElem?_cons_succ, List.getElem?_cons_zero]; rfl) ?_)
                      | ((with_reducible refine gate_dst (N := 23) rfl ?_); refine fr_sub H (n := 6) rfl rfl rfl (by repeat (first | exact At.head | apply At.tail)) Tryz.underlying44 rfl (by kernel_rfl) (by simp only [List.toList_toArray, List.drop_succ_cons, List.drop_zero, List.take_succ_cons, List.take_zero]; rfl) (by rfl) ?_)
                      | ((with_reducible refine gate_dst (N := 6) rfl ?_); refine fr_new H (N := 6) rfl rfl (cs := #[.int .i64 0, .slice none 0 0, .bool false, .int .i64 0, .bool false, .slice none 0 0]) (t := 44) ?hr ?_; (case hr => first | (go_simp; done) | (go_simp; rfl)); intro g6 w6 H1; clear H; have H := H1; clear H1)
                      | ((with_reducible refine gate_store (t := 44) (p := 6) rfl ?_); refine fr_put H rfl rfl rfl rfl rfl (by repeat (first | exact At.head | apply At.tail)) (by rfl) (by kernel_rfl) (by simp [Value.oneCell']) ?_; intro w6_ H1; clear H; have H := H1; clear H1)
                      | ((with_reducible refine gate_dst (N := 25) rfl ?_); refine fr_get H rfl rfl rfl (by repeat (first | exact At.head | apply At.tail)) Tryz.underlying42 rfl (by simp only [List.getElem?_toArray, List.getElem?_cons_succ, List.getElem?_cons_zero]; rfl) ?_)
                      | ((with_reducible refine gate_dst (N := 30) rfl ?_); (try (refine gate_guard (by rfl) ?_; dsimp only)); refine fr_get H rfl rfl rfl (by repeat (first | exact At.head | apply At.tail)) Tryz.underlying26 rfl (by simp only [List.getElem?_toArray, List.getElem?_cons_succ, List.getElem?_cons_zero]; rfl) ?_)
                      | ((with_reducible refine gate_dst (N := 35) rfl ?_); refine fr_get H rfl rfl rfl (by repeat (first | exact At.head | apply At.tail)) Tryz.underlying42 rfl (by simp only [List.getElem?_toArray, List.getElem?_cons_succ, List.getElem?_cons_zero]; rfl) ?_)
                      | ((with_reducible refine gate_dst (N := 40) rfl ?_); refine fr_sub H (n := 15) rfl rfl rfl (by repeat (first | exact At.head | apply At.tail)) Tryz.underlying49 rfl (by kernel_rfl) (by simp only [List.toList_toArray, List.drop_succ_cons, List.drop_zero, List.take_succ_cons, List.take_zero]; rfl) (by rfl) ?_)
                      | ((with_reducible refine gate_dst (N := 8) rfl ?_); refine fr_new H (N := 8) rfl rfl (cs := #[.int .i64 0, .int .i64 0, .int .i64 0, .int .i64 0, .int .i64 0, .int .i64 0, .bool false, .bool false, .int .i64 0, .int .i64 0, .int .i64 0, .int .i64 0, .int .i64 0, .slice none 0 0, .int .i64 0]) (t := 49) ?hr ?_; (case hr => first | (go_simp; done) | (go_simp; rfl)); intro g8 w8 H1; clear H; have H := H1; clear H1)
                      | ((with_reducible refine gate_store (t := 49) (p := 8) rfl ?_); refine fr_put H rfl rfl rfl rfl rfl (by repeat (first | exact At.head | apply At.tail)) (by rfl) (by kernel_rfl) (by simp [Value.oneCell']) ?_; intro w8_ H1; clear H; have H := H1; clear H1)
                      | ((with_reducible refine gate_dst (N := 43) rfl ?_); refine fr_get H rfl rfl rfl (by repeat (first | exact At.head | apply At.tail)) Tryz.underlying26 rfl (by simp only [List.getElem?_toArray, List.getElem?_cons_succ, List.getElem?_cons_zero]; rfl) ?_)
                      | fail)
                    go_ret
                    exact ⟨by rw [HBAD.out (by rw [HX.out, List.any_eq_true.2 ⟨_, HZM.out, HE3.out⟩]; rfl)]; rfl, H.below⟩
                  | false =>
                    go_wp2_with (first
                      | ((with_reducible refine gate_dst (N := 40) rfl ?_); refine load_cells rfl rfl (ad := ad2.add (j * 15)) (cs := [.int .i64 kind, .int .i64 frm, .int .i64 mlo, .int .i64 mhi, .int .i64 mheld, .int .i64 mhops, .bool mgood, .bool mref, .int .i64 slo, .int .i64 shi, .int .i64 pulse, .int .i64 mst, .int .i64 msn, .slice Am nm cm, .int .i64 age]) ?hx Tryz.underlying49 rfl (by kernel_rfl) HC2.out ?_; (case hx => first | rfl | (go_simp; done) | (go_simp; rfl)))
                      | ((with_reducible refine gate_dst (N := 2) rfl ?_); refine fr_box H rfl rfl rfl ?_; intro g2 w2 H1; clear H; have H := H1; clear H1)
                      | ((with_reducible refine gate_dst (N := 10) rfl ?_); refine fr_get H rfl rfl rfl (by repeat (first | exact At.head | apply At.tail)) Tryz.underlying26 rfl (by simp only [List.getElem?_toArray, List.getElem?_cons_succ, List.getElem?_cons_zero]; rfl) ?_)
                      | ((with_reducible refine gate_dst (N := 23) rfl ?_); refine fr_sub H (n := 6) rfl rfl rfl (by repeat (first | exact At.head | apply At.tail)) Tryz.underlying44 rfl (by kernel_rfl) (by simp only [List.toList_toArray, List.drop_succ_cons, List.drop_zero, List.take_succ_cons, List.take_zero]; rfl) (by rfl) ?_)
                      | ((with_reducible refine gate_dst (N := 6) rfl ?_); refine fr_new H (N := 6) rfl rfl (cs := #[.int .i64 0, .slice none 0 0, .bool false, .int .i64 0, .bool false, .slice none 0 0]) (t := 44) ?hr ?_; (case hr => first | (go_simp; done) | (go_simp; rfl)); intro g6 w6 H1; clear H; have H := H1; clear H1)
                      | ((with_reducible refine gate_store (t := 44) (p := 6) rfl ?_); refine fr_put H rfl rfl rfl rfl rfl (by repeat (first | exact At.head | apply At.tail)) (by rfl) (by kernel_rfl) (by simp [Value.oneCell']) ?_; intro w6_ H1; clear H; have H := H1; clear H1)
                      | ((with_reducible refine gate_dst (N := 25) rfl ?_); refine fr_get H rfl rfl rfl (by repeat (first | exact At.head | apply At.tail)) Tryz.underlying42 rfl (by simp only [List.getElem?_toArray, List.getElem?_cons_succ, List.getElem?_cons_zero]; rfl) ?_)
                      | ((with_reducible refine gate_dst (N := 30) rfl ?_); (try (refine gate_guard (by rfl) ?_; dsimp only)); refine fr_get H rfl rfl rfl (by repeat (first | exact At.head | apply At.tail)) Tryz.underlying26 rfl (by simp only [List.getElem?_toArray, List.getElem?_cons_succ, List.getElem?_cons_zero]; rfl) ?_)
                      | ((with_reducible refine gate_dst (N := 35) rfl ?_); refine fr_get H rfl rfl rfl (by repeat (first | exact At.head | apply At.tail)) Tryz.underlying42 rfl (by simp only [List.getElem?_toArray, List.getElem?_cons_succ, List.getElem?_cons_zero]; rfl) ?_)
                      | ((with_reducible refine gate_dst (N := 40) rfl ?_); refine fr_sub H (n := 15) rfl rfl rfl (by repeat (first | exact At.head | apply At.tail)) Tryz.underlying49 rfl (by kernel_rfl) (by simp only [List.toList_toArray, List.drop_succ_cons, List.drop_zero, List.take_succ_cons, List.take_zero]; rfl) (by rfl) ?_)
                      | ((with_reducible refine gate_dst (N := 8) rfl ?_); refine fr_new H (N := 8) rfl rfl (cs := #[.int .i64 0, .int .i64 0, .int .i64 0, .int .i64 0, .int .i64 0, .int .i64 0, .bool false, .bool false, .int .i64 0, .int .i64 0, .int .i64 0, .int .i64 0, .int .i64 0, .slice none 0 0, .int .i64 0]) (t := 49) ?hr ?_; (case hr => first | (go_simp; done) | (go_simp; rfl)); intro g8 w8 H1; clear H; have H := H1; clear H1)
                      | ((with_reducible refine gate_store (t := 49) (p := 8) rfl ?_); refine fr_put H rfl rfl rfl rfl rfl (by repeat (first | exact At.head | apply At.tail)) (by rfl) (by kernel_rfl) (by simp [Value.oneCell']) ?_; intro w8_ H1; clear H; have H := H1; clear H1)
                      | ((with_reducible refine gate_dst (N := 43) rfl ?_); refine fr_get H rfl rfl rfl (by repeat (first | exact At.head | apply At.tail)) Tryz.underlying26 rfl (by simp only [List.getElem?_toArray, List.getElem?_cons_succ, List.getElem?_cons_zero]; rfl) ?_)
                      | fail)
                    go_roundw
                    case rel => exact ⟨j + 1, by omega, by simp, Lib.hid (fun h hm => by
                      rw [HTJ.out] at hm
                      rcases List.mem_append.1 hm with hm | hm
                      · exact HJ.out h hm
                      · rw [List.mem_singleton.1 hm]; exact HE3.out), H.drop⟩
                    case measure => simp [intOf]; omega
                · obtain rfl : j = nh := by omega
                  go_wp2_with (first
                    | ((with_reducible refine gate_dst (N := 2) rfl ?_); refine fr_box H rfl rfl rfl ?_; intro g2 w2 H1; clear H; have H := H1; clear H1)
                    | ((with_reducible refine gate_dst (N := 10) rfl ?_); refine fr_get H rfl rfl rfl (by repeat (first | exact At.head | apply At.tail)) Tryz.underlying26 rfl (by simp only [List.getElem?_toArray, List.getElem?_cons_succ, List.getElem?_cons_zero]; rfl) ?_)
                    | ((with_reducible refine gate_dst (N := 23) rfl ?_); refine fr_sub H (n := 6) rfl rfl rfl (by repeat (first | exact At.head | apply At.tail)) Tryz.underlying44 rfl (by kernel_rfl) (by simp only [List.toList_toArray, List.drop_succ_cons, List.drop_zero, List.take_succ_cons, List.take_zero]; rfl) (by rfl) ?_)
                    | ((with_reducible refine gate_dst (N := 6) rfl ?_); refine fr_new H (N := 6) rfl rfl (cs := #[.int .i64 0, .slice none 0 0, .bool false, .int .i64 0, .bool false, .slice none 0 0]) (t := 44) ?hr ?_; (case hr => first | (go_simp; done) | (go_simp; rfl)); intro g6 w6 H1; clear H; have H := H1; clear H1)
                    | ((with_reducible refine gate_store (t := 44) (p := 6) rfl ?_); refine fr_put H rfl rfl rfl rfl rfl (by repeat (first | exact At.head | apply At.tail)) (by rfl) (by kernel_rfl) (by simp [Value.oneCell']) ?_; intro w6_ H1; clear H; have H := H1; clear H1)
                    | ((with_reducible refine gate_dst (N := 25) rfl ?_); refine fr_get H rfl rfl rfl (by repeat (first | exact At.head | apply At.tail)) Tryz.underlying42 rfl (by simp only [List.getElem?_toArray, List.getElem?_cons_succ, List.getElem?_cons_zero]; rfl) ?_)
                    | ((with_reducible refine gate_dst (N := 30) rfl ?_); (try (refine gate_guard (by rfl) ?_; dsimp only)); refine fr_get H rfl rfl rfl (by repeat (first | exact At.head | apply At.tail)) Tryz.underlying26 rfl (by simp only [List.getElem?_toArray, List.getElem?_cons_succ, List.getElem?_cons_zero]; rfl) ?_)
                    | ((with_reducible refine gate_dst (N := 35) rfl ?_); refine fr_get H rfl rfl rfl (by repeat (first | exact At.head | apply At.tail)) Tryz.underlying42 rfl (by simp only [List.getElem?_toArray, List.getElem?_cons_succ, List.getElem?_cons_zero]; rfl) ?_)
                    | ((with_reducible refine gate_dst (N := 40) rfl ?_); refine fr_sub H (n := 15) rfl rfl rfl (by repeat (first | exact At.head | apply At.tail)) Tryz.underlying49 rfl (by kernel_rfl) (by simp only [List.toList_toArray, List.drop_succ_cons, List.drop_zero, List.take_succ_cons, List.take_zero]; rfl) (by rfl) ?_)
                    | ((with_reducible refine gate_dst (N := 8) rfl ?_); refine fr_new H (N := 8) rfl rfl (cs := #[.int .i64 0, .int .i64 0, .int .i64 0, .int .i64 0, .int .i64 0, .int .i64 0, .bool false, .bool false, .int .i64 0, .int .i64 0, .int .i64 0, .int .i64 0, .int .i64 0, .slice none 0 0, .int .i64 0]) (t := 49) ?hr ?_; (case hr => first | (go_simp; done) | (go_simp; rfl)); intro g8 w8 H1; clear H; have H := H1; clear H1)
                    | ((with_reducible refine gate_store (t := 49) (p := 8) rfl ?_); refine fr_put H rfl rfl rfl rfl rfl (by repeat (first | exact At.head | apply At.tail)) (by rfl) (by kernel_rfl) (by simp [Value.oneCell']) ?_; intro w8_ H1; clear H; have H := H1; clear H1)
                    | ((with_reducible refine gate_dst (N := 43) rfl ?_); refine fr_get H rfl rfl rfl (by repeat (first | exact At.head | apply At.tail)) Tryz.underlying26 rfl (by simp only [List.getElem?_toArray, List.getElem?_cons_succ, List.getElem?_cons_zero]; rfl) ?_)
                    | fail)
                  go_roundw
                  case rel => exact ⟨k + 1, by omega, by simp, Lib.hid (fun y hm => by
                    rw [HT.out] at hm
                    rcases List.mem_append.1 hm with hm | hm
                    · exact HQ.out y hm
                    · rw [List.mem_singleton.1 hm, HX.out]
                      have e : heard.take j = heard := List.take_of_length_le (by rw [HNH.out]; exact Nat.le_refl _)
                      rw [List.any_eq_false.2 (fun h hm => by rw [HJ.out h (by rw [e]; exact hm)]; simp)]
                      rfl), H⟩
                  case measure => simp [intOf]; omega
        · obtain rfl : k = m := by omega
          go_wp2_with (first
            | ((with_reducible refine gate_dst (N := 2) rfl ?_); refine fr_box H rfl rfl rfl ?_; intro g2 w2 H1; clear H; have H := H1; clear H1)
            | ((with_reducible refine gate_dst (N := 10) rfl ?_); refine fr_get H rfl rfl rfl (by repeat (first | exact At.head | apply At.tail)) Tryz.underlying26 rfl (by simp only [List.getElem?_toArray, List.getElem?_cons_succ, List.getElem?_cons_zero]; rfl) ?_)
            | ((with_reducible refine gate_dst (N := 23) rfl ?_); refine fr_sub H (n := 6) rfl rfl rfl (by repeat (first | exact At.head | apply At.tail)) Tryz.underlying44 rfl (by kernel_rfl) (by simp only [List.toList_toArray, List.drop_succ_cons, List.drop_zero, List.take_succ_cons, List.take_zero]; rfl) (by rfl) ?_)
            | ((with_reducible refine gate_dst (N := 6) rfl ?_); refine fr_new H (N := 6) rfl rfl (cs := #[.int .i64 0, .slice none 0 0, .bool false, .int .i64 0, .bool false, .slice none 0 0]) (t := 44) ?hr ?_; (case hr => first | (go_simp; done) | (go_simp; rfl)); intro g6 w6 H1; clear H; have H := H1; clear H1)
            | ((with_reducible refine gate_store (t := 44) (p := 6) rfl ?_); refine fr_put H rfl rfl rfl rfl rfl (by repeat (first | exact At.head | apply At.tail)) (by rfl) (by kernel_rfl) (by simp [Value.oneCell']) ?_; intro w6_ H1; clear H; have H := H1; clear H1)
            | ((with_reducible refine gate_dst (N := 25) rfl ?_); refine fr_get H rfl rfl rfl (by repeat (first | exact At.head | apply At.tail)) Tryz.underlying42 rfl (by simp only [List.getElem?_toArray, List.getElem?_cons_succ, List.getElem?_cons_zero]; rfl) ?_)
            | ((with_reducible refine gate_dst (N := 30) rfl ?_); (try (refine gate_guard (by rfl) ?_; dsimp only)); refine fr_get H rfl rfl rfl (by repeat (first | exact At.head | apply At.tail)) Tryz.underlying26 rfl (by simp only [List.getElem?_toArray, List.getElem?_cons_succ, List.getElem?_cons_zero]; rfl) ?_)
            | ((with_reducible refine gate_dst (N := 35) rfl ?_); refine fr_get H rfl rfl rfl (by repeat (first | exact At.head | apply At.tail)) Tryz.underlying42 rfl (by simp only [List.getElem?_toArray, List.getElem?_cons_succ, List.getElem?_cons_zero]; rfl) ?_)
            | ((with_reducible refine gate_dst (N := 40) rfl ?_); refine fr_sub H (n := 15) rfl rfl rfl (by repeat (first | exact At.head | apply At.tail)) Tryz.underlying49 rfl (by kernel_rfl) (by simp only [List.toList_toArray, List.drop_succ_cons, List.drop_zero, List.take_succ_cons, List.take_zero]; rfl) (by rfl) ?_)
            | ((with_reducible refine gate_dst (N := 8) rfl ?_); refine fr_new H (N := 8) rfl rfl (cs := #[.int .i64 0, .int .i64 0, .int .i64 0, .int .i64 0, .int .i64 0, .int .i64 0, .bool false, .bool false, .int .i64 0, .int .i64 0, .int .i64 0, .int .i64 0, .int .i64 0, .slice none 0 0, .int .i64 0]) (t := 49) ?hr ?_; (case hr => first | (go_simp; done) | (go_simp; rfl)); intro g8 w8 H1; clear H; have H := H1; clear H1)
            | ((with_reducible refine gate_store (t := 49) (p := 8) rfl ?_); refine fr_put H rfl rfl rfl rfl rfl (by repeat (first | exact At.head | apply At.tail)) (by rfl) (by kernel_rfl) (by simp [Value.oneCell']) ?_; intro w8_ H1; clear H; have H := H1; clear H1)
            | ((with_reducible refine gate_dst (N := 43) rfl ?_); refine fr_get H rfl rfl rfl (by repeat (first | exact At.head | apply At.tail)) Tryz.underlying26 rfl (by simp only [List.getElem?_toArray, List.getElem?_cons_succ, List.getElem?_cons_zero]; rfl) ?_)
            | fail)
          go_ret
          refine ⟨?_, H.below⟩
          have e : l.take k = l := List.take_of_length_le (by rw [HM.out]; exact Nat.le_refl _)
          rw [HG.out, List.any_eq_false.2 (fun y hm => by rw [HQ.out y (by rw [e]; exact hm)]; simp)]
          rfl
set_option maxRecDepth 100000 in
set_option maxHeartbeats 1000000 in
theorem some_calls (w : World) : Calls Tryz.prog 17 #[] w fun e w' => e = .returned (.agg #[.int .i64 1, .int .i64 0, .int .i64 0, .int .i64 1000, .int .i64 1, .int .i64 100, .int .i64 10, .int .i64 50, .int .i64 20, .int .i64 5, .int .i64 5000, .int .i64 1000]) ∧ Below w.heap.size w w' := by
  have H := Fr.start0 (M := fun _ => False) (A := fun _ => False) (w := w) (p := fun _ => True) (fun _ h => h.elim) (fun _ _ => trivial)
  go_enter Tryz.func17, Tryz.ntmps17
  go_wp2_with (first
    | ((with_reducible refine gate_dst (N := 0) rfl ?_); refine fr_new H (N := 0) rfl rfl (cs := #[.int .i64 0, .int .i64 0, .int .i64 0, .int .i64 0, .int .i64 0, .int .i64 0, .int .i64 0, .int .i64 0, .int .i64 0, .int .i64 0, .int .i64 0, .int .i64 0]) (t := 23) ?hr ?_; (case hr => first | (go_simp; done) | (go_simp; rfl)); intro g0 w0 H1; clear H; have H := H1; clear H1)
    | ((with_reducible refine gate_store (t := 23) (p := 0) rfl ?_); refine fr_put H rfl rfl rfl rfl rfl (by repeat (first | exact At.head | apply At.tail)) (by rfl) (by kernel_rfl) (by simp [Value.oneCell']) ?_; intro w0_ H1; clear H; have H := H1; clear H1)
    | fail)
  refine bodyPost_ret (results_c rfl _ _ g0 23 _ (0, 0) _ rfl (H.of (by repeat (first | exact At.head | apply At.tail))) Tryz.underlying23 rfl (by kernel_rfl)) rfl ?_
  exact ⟨rfl, H.below⟩
def pA : Par := ⟨1, 0, 0, 1000, 1, 100, 10, 50, 20, 5, 5000, 1000⟩
def sA : St := ⟨0, 0, 0, false, 0, 0, false, [], 0, 0, 0⟩
def xA : Inp := ⟨1000, [], true, 5000, false, []⟩
theorem sane_A : saneS pA.D sA = sA := by kernel_rfl
theorem told_nil (N me : Int) : told N me [] = [] := List.eq_nil_of_length_eq_zero (by unfold told; rw [sortB_length]; rfl)
theorem fuse_A : fuse 0 [⟨4950, 5050⟩] = (4950, 5050, true) := by
  have h1 : most 0 (lows [⟨4950, 5050⟩]) = 4950 := most_is (by decide) (by decide) (by decide) (by decide)
  have h2 : least 0 (highs [⟨4950, 5050⟩]) = 5050 := least_is (by decide) (by decide) (by decide) (by decide)
  have h : fuse 0 [⟨4950, 5050⟩] = fin 0 (lows [⟨4950, 5050⟩]) (highs [⟨4950, 5050⟩]) := if_neg (by decide)
  rw [h]
  unfold fin
  rw [h1, h2, if_neg (by decide), clip_id (by decide) (by decide), clip_id (by decide) (by decide)]
theorem spans_A : spansP pA 0 xA = [⟨4950, 5050⟩] := by
  unfold spansP seenL
  rw [show rdB pA xA = true by kernel_rfl, show told pA.N 0 xA.heard = [] from told_nil _ _]
  kernel_rfl
theorem next_A : nextS pA 0 sA xA = ⟨4950, 5050, 0, false, 0, 0, true, [], 0, 0, 0⟩ := by
  unfold nextS
  rw [spans_A, show pA.F = 0 by rfl, fuse_A]
  kernel_rfl
theorem beat_A0 : beatS0 pA 0 sA xA = ⟨4950, 5050, 5000, true, 0, 0, true, [], 5000, 0, 0⟩ := by
  unfold beatS0
  rw [next_A]
  kernel_rfl
theorem beat_A : beatS pA 0 sA xA = ⟨4950, 5050, 5000, true, 0, 0, true, [], 5000, 1, 0⟩ := by
  unfold beatS
  rw [beat_A0]
  kernel_rfl
theorem leaps_nil (w : World) : Kd.C k58 w none 0 [] := ⟨rfl, by omega, fun h => by omega⟩
theorem rowH_nil (w : World) (A : Option Addr) : RowH w A [] := fun k hk => by simp at hk
set_option maxRecDepth 100000 in
set_option maxHeartbeats 4000000 in
theorem alive_calls (w : World) : Calls Tryz.prog 5 #[] w fun e w' => e = .returned (.bool true) ∧ Below w.heap.size w w' := by
  have H := Fr.start0 (M := fun _ => False) (A := fun _ => False) (w := w) (p := fun _ => True) (fun _ h => h.elim) (fun _ _ => trivial)
  have KNew : Hid (∀ W, Calls Tryz.prog 7 #[.agg #[.int .i64 1, .int .i64 0, .int .i64 0, .int .i64 1000, .int .i64 1, .int .i64 100, .int .i64 10, .int .i64 50, .int .i64 20, .int .i64 5, .int .i64 5000, .int .i64 1000], .int .i64 0, .agg #[.int .i64 0, .int .i64 0, .int .i64 0, .bool false, .int .i64 0, .int .i64 0, .bool false, .slice none 0 0, .int .i64 0, .int .i64 0, .int .i64 0]] W fun e w' => ∃ g A' c', e = .returned (.pointer (some ⟨g, 0, none⟩)) ∧ W.heap.size ≤ g ∧ w'.heap[g]? = some (.cells #[.int .i64 1, .int .i64 0, .int .i64 0, .int .i64 1000, .int .i64 1, .int .i64 100, .int .i64 10, .int .i64 50, .int .i64 20, .int .i64 5, .int .i64 5000, .int .i64 1000, .int .i64 0, .int .i64 0, .int .i64 0, .bool false, .int .i64 0, .int .i64 0, .bool false, .slice A' 0 c', .int .i64 0, .int .i64 0, .int .i64 0, .int .i64 0] 41 (0, 0)) ∧ w'.ownsRow W.heap.size 58 2 (.slice A' 0 c') 0 [] ∧ (∀ ad, A' = some ad → ad.block ≠ g) ∧ Below W.heap.size W w') := Lib.hid (fun W => by
    have := New_calls pA 0 sA none 0 W (leaps_nil W) (by decide)
    rw [sane_A] at this
    exact this)
  have KBeat : Hid (∀ W g A' c', W.heap[g]? = some (.cells #[.int .i64 1, .int .i64 0, .int .i64 0, .int .i64 1000, .int .i64 1, .int .i64 100, .int .i64 10, .int .i64 50, .int .i64 20, .int .i64 5, .int .i64 5000, .int .i64 1000, .int .i64 0, .int .i64 0, .int .i64 0, .bool false, .int .i64 0, .int .i64 0, .bool false, .slice A' 0 c', .int .i64 0, .int .i64 0, .int .i64 0, .int .i64 0] 41 (0, 0)) → Tr (fun k => k = g) W (fun W => W.ownsRow w.heap.size 58 2 (.slice A' 0 c') 0 []) → Calls Tryz.prog 13 #[.pointer (some ⟨g, 0, none⟩), .agg #[.int .i64 1000, .slice none 0 0, .bool true, .int .i64 5000, .bool false, .slice none 0 0]] W fun e w' => ∃ (A1 : Option Addr) (c1 : Nat) (A2 : Option Addr) (c2 : Nat) (rd : Bool) (q1 q2 pu : Int), e = .returned (.agg #[.int .i64 1, .int .i64 0, .int .i64 4950, .int .i64 5050, .int .i64 0, .int .i64 0, .bool true, .bool rd, .int .i64 q1, .int .i64 q2, .int .i64 pu, .int .i64 5000, .int .i64 1, .slice A2 0 c2]) ∧ w'.heap[g]? = some (.cells #[.int .i64 1, .int .i64 0, .int .i64 0, .int .i64 1000, .int .i64 1, .int .i64 100, .int .i64 10, .int .i64 50, .int .i64 20, .int .i64 5, .int .i64 5000, .int .i64 1000, .int .i64 4950, .int .i64 5050, .int .i64 5000, .bool true, .int .i64 0, .int .i64 0, .bool true, .slice A1 0 c1, .int .i64 5000, .int .i64 1, .int .i64 0, .int .i64 0] 41 (0, 0)) ∧ Chg (fun k => k = g) W w') := Lib.hid (fun W g A' c' h1 h2 => by
    have := Beat_calls pA 0 sA A' c' g xA none 0 none 0 W h1 (Foot.imp h2 (fun W' h3 => ⟨rowH_nil _ _, leaps_nil _, by
      obtain ⟨A2, c2, e, _, h4, _⟩ := row_C (l := []) h3 rfl
      injection e with e1 e2 e3
      rw [e1]
      exact h4⟩)) (by decide) (by decide) (by decide)
    rw [beat_A0, beat_A] at this
    refine this.mono fun e w' h => ?_
    obtain ⟨A1, c1, A2, c2, h3, h4, _, _, _, h5⟩ := h
    exact ⟨A1, c1, A2, c2, _, _, _, _, h3, h4, h5⟩)
  have KNow : Hid (∀ W g A' c', W.heap[g]? = some (.cells #[.int .i64 1, .int .i64 0, .int .i64 0, .int .i64 1000, .int .i64 1, .int .i64 100, .int .i64 10, .int .i64 50, .int .i64 20, .int .i64 5, .int .i64 5000, .int .i64 1000, .int .i64 4950, .int .i64 5050, .int .i64 5000, .bool true, .int .i64 0, .int .i64 0, .bool true, .slice A' 0 c', .int .i64 5000, .int .i64 1, .int .i64 0, .int .i64 0] 41 (0, 0)) → Calls Tryz.prog 18 #[.pointer (some ⟨g, 0, none⟩)] W fun e w' => e = .returned (.tuple #[.int .i64 5000, .int .i64 0]) ∧ Below W.heap.size W w') := Lib.hid (fun W g A' c' h => by
    exact Now_calls pA ⟨4950, 5050, 5000, true, 0, 0, true, [], 5000, 1, 0⟩ A' c' g 0 W h)
  go_enter Tryz.func5, Tryz.ntmps5
  go_wp2_with (first
    | (go_at_call 17; (with_reducible refine (some_calls _).mono ?_); rintro e w' ⟨rfl, hb⟩; have H1 := H.call hb; clear hb; clear H; have H := H1; clear H1)
    | (go_at_call 7; (with_reducible refine (KNew.out _).mono ?_); rintro e w' ⟨g, A1, c1, rfl, hg, hb, ho, hne, hB⟩; have H1 := Fr.freshRow H hg hb hB ho hne; clear hg hb hB ho hne H; have H := H1; clear H1)
    | (go_at_call 13; have HT := Foot.imp (Fr.trAt H At.head) (fun _ h => h.2); (with_reducible refine (KBeat.out _ g A1 c1 (H.of At.head) HT).mono ?_); clear HT; rintro e w' ⟨A3, c3, A2, c2, rd, q1, q2, pu, rfl, hb, hc⟩; have H1 := H.turn At.head hb hc; clear hb hc H; have H := H1; clear H1)
    | (go_at_call 18; (with_reducible refine (KNow.out _ _ _ _ (H.of (by repeat (first | exact At.head | apply At.tail)))).mono ?_); rintro e w' ⟨rfl, hb⟩; have H1 := H.call hb; clear hb; clear H; have H := H1; clear H1)
    | ((with_reducible refine gate_dst (N := 2) rfl ?_); refine fr_new H (N := 2) rfl rfl (cs := #[.int .i64 0, .int .i64 0, .int .i64 0, .int .i64 0, .int .i64 0, .int .i64 0, .bool false, .bool false, .int .i64 0, .int .i64 0, .int .i64 0, .int .i64 0, .int .i64 0, .slice none 0 0]) (t := 47) ?hr ?_; (case hr => first | (go_simp; done) | (go_simp; rfl)); intro g2 w2 H1; clear H; have H := H1; clear H1)
    | ((with_reducible refine gate_store (t := 47) (p := 2) rfl ?_); refine fr_put H rfl rfl rfl rfl rfl (by repeat (first | exact At.head | apply At.tail)) (by rfl) (by kernel_rfl) (by simp [Value.oneCell']) ?_; intro w2_ H1; clear H; have H := H1; clear H1)
    | ((with_reducible refine gate_dst (N := 28) rfl ?_); (try (refine gate_guard (by rfl) ?_; dsimp only)); refine fr_sub H (n := 2) rfl rfl rfl (by repeat (first | exact At.head | apply At.tail)) Tryz.underlying25 rfl (by kernel_rfl) (by simp only [List.toList_toArray, List.drop_succ_cons, List.drop_zero, List.take_succ_cons, List.take_zero]; rfl) (by rfl) ?_)
    | ((with_reducible refine gate_dst (N := 34) rfl ?_); (try (refine gate_guard (by rfl) ?_; dsimp only)); refine fr_get H rfl rfl rfl (by repeat (first | exact At.head | apply At.tail)) Tryz.underlying3 rfl (by simp only [List.getElem?_toArray, List.getElem?_cons_succ, List.getElem?_cons_zero]; rfl) ?_)
    | ((with_reducible refine gate_dst (N := 39) rfl ?_); (try (refine gate_guard (by rfl) ?_; dsimp only)); refine fr_get H rfl rfl rfl (by repeat (first | exact At.head | apply At.tail)) Tryz.underlying4 rfl (by simp only [List.getElem?_toArray, List.getElem?_cons_succ, List.getElem?_cons_zero]; rfl) ?_)
    | fail)
  go_ret
  exact ⟨rfl, H.below⟩
end Go.Proofs.YtbmfgcekglgliaaGreat.G

namespace Go.Proofs.YtbmfgcekglgliaaGreatRz
open Go.RowKit Go.Proofs.YtbmfgcekglgliaaGreatW.PrintWords Go.Proofs.YtbmfgcekglgliaaGreatW.PrintLast Go.Proofs.YtbmfgcekglgliaaGreatW.PrintMore
open Go.Proofs.YtbmfgcekglgliaaGreatEm (Fr Chg At Of Tr Keep Frs)
open Go.Proofs.YtbmfgcekglgliaaGreatKr (Take)
set_option linter.unusedVariables false
theorem Fr.sub {M A : Nat → Prop} {w W : World} {bl bl' : List (Nat × Obj)} {p : World → Prop} (h : Fr M A w W bl p) (hs : ∀ x, x ∈ bl' → x ∈ bl) (nd : bl'.Pairwise (fun x y => x.1 ≠ y.1)) : Fr M A w W bl' p :=
  ⟨h.av, h.chg, fun x hx => h.blk x (hs x hx), nd, Tr.less h.tr (fun k _ q => q.imp id (fun ⟨x, hx, e⟩ => ⟨x, hs x hx, e⟩))⟩
theorem Fr.front {M A : Nat → Prop} {w W : World} {bl bl' : List (Nat × Obj)} {p : World → Prop} {g : Nat} {o : Obj} (h : Fr M A w W bl p) (ht : Take bl g o bl') : Fr M A w W ((g, o) :: bl') p :=
  Fr.sub h (fun x hx => ht.perm.mem_iff.2 hx) (Go.Proofs.YtbmfgcekglgliaaGreatKr.nd_perm ht.perm h.nd)
theorem Fr.only {M A : Nat → Prop} {w W : World} {bl bl' : List (Nat × Obj)} {p q : World → Prop} {g : Nat} {o : Obj} (h : Fr M A w W bl p) (ha : At bl g o o bl') (hp : ∀ W, p W → q W) : Frs M A w [(g, o)] q W :=
  (Fr.sub h (fun x hx => by rw [List.mem_singleton.1 hx]; exact ha.mem) (List.pairwise_singleton _ _)).imp hp
section
variable {P : Program} {ops : Array Oper} {Q : Exit → Act → World → Prop} {S : World → Prop} {ds : List Nat} {n i j k : Nat} {dn : List Nat} {a : Act} {w : World} {o oi oj ok : Oper} {rest ri rj rk : List (Nat × Oper)} {v : Value}
end
section
variable {P : Program} {ops : Array Oper} {Q : Exit → Act → World → Prop} {ds : List Nat} {n i : Nat} {dn : List Nat} {a : Act} {W : World} {o : Oper} {rest : List (Nat × Oper)} {v : Value} {M A M0 A0 : Nat → Prop} {w w0 : World} {bl bl' bl0 : List (Nat × Obj)} {p p0 : World → Prop}
end
end Go.Proofs.YtbmfgcekglgliaaGreatRz

namespace Go.Proofs.YtbmfgcekglgliaaGreat.G
open Go.RowKit Go.Proofs.YtbmfgcekglgliaaGreatW.PrintWords Go.Proofs.YtbmfgcekglgliaaGreatW.PrintLast Go.Proofs.YtbmfgcekglgliaaGreatW.PrintMore Go.Proofs.YtbmfgcekglgliaaGreatPl Go.Proofs.YtbmfgcekglgliaaGreatEm Go.Proofs.YtbmfgcekglgliaaGreatKr Go.Proofs.YtbmfgcekglgliaaGreatRz Go.Proofs.YtbmfgcekglgliaaGreat.X
set_option linter.unusedVariables false
set_option linter.unusedSimpArgs false
theorem Beat_to (p : Par) (me : Int) (s : St) (A : Option Addr) (c g : Nat) (x : Inp) (Ah : Option Addr) (ch : Nat) (Ax : Option Addr) (ct : Nat) (w : World) (U : St) (hU : beatS p me s x = U) (hg : w.heap[g]? = some (.cells #[.int .i64 p.N, .int .i64 p.F, .int .i64 p.D, .int .i64 p.Be, .int .i64 p.Rho, .int .i64 p.De, .int .i64 p.Ji, .int .i64 p.Eps, .int .i64 p.Mu, .int .i64 p.Ho, .int .i64 p.Pu, .int .i64 p.Se, .int .i64 s.lo, .int .i64 s.hi, .int .i64 s.time, .bool s.set, .int .i64 s.held, .int .i64 s.hops, .bool s.good, .slice A s.tab.length c, .int .i64 s.st, .int .i64 s.sn, .int .i64 s.life, .int .i64 me] 41 (0, 0))) (hr : Tr (fun k => k = g) w (pR Ah x.heard Ax x.tab A s.tab)) (hl : x.heard.length ≤ 4096) (hlt : x.tab.length ≤ 4096) (hls : s.tab.length ≤ 4096) :
    Calls Tryz.prog 13 #[.pointer (some ⟨g, 0, none⟩), .agg #[.int .i64 x.ticks, .slice Ah x.heard.length ch, .bool x.ref, .int .i64 x.reading, .bool x.given, .slice Ax x.tab.length ct]] w fun e w' => ∃ A1 c1 A2 c2, e = .returned (.agg #[.int .i64 1, .int .i64 me, .int .i64 U.lo, .int .i64 U.hi, .int .i64 U.held, .int .i64 U.hops, .bool U.good, .bool (rdB p x), .int .i64 (snP p x).1, .int .i64 (snP p x).2, .int .i64 (pulseS p U), .int .i64 U.st, .int .i64 U.sn, .slice A2 U.tab.length c2]) ∧ w'.heap[g]? = some (.cells #[.int .i64 p.N, .int .i64 p.F, .int .i64 p.D, .int .i64 p.Be, .int .i64 p.Rho, .int .i64 p.De, .int .i64 p.Ji, .int .i64 p.Eps, .int .i64 p.Mu, .int .i64 p.Ho, .int .i64 p.Pu, .int .i64 p.Se, .int .i64 U.lo, .int .i64 U.hi, .int .i64 U.time, .bool U.set, .int .i64 U.held, .int .i64 U.hops, .bool U.good, .slice A1 U.tab.length c1, .int .i64 U.st, .int .i64 U.sn, .int .i64 U.life, .int .i64 me] 41 (0, 0)) ∧ w'.ownsRow w.heap.size 58 2 (.slice A1 U.tab.length c1) U.tab.length (flL U.tab) ∧ w'.ownsRow w.heap.size 58 2 (.slice A2 U.tab.length c2) U.tab.length (flL U.tab) ∧ (∀ a1 a2, A1 = some a1 → A2 = some a2 → a1.block ≠ a2.block) ∧ Chg (fun k => k = g) w w' := by
  subst hU
  exact Beat_calls p me s A c g x Ah ch Ax ct w hg hr hl hlt hls
theorem New_to (p : Par) (me : Int) (s : St) (A : Option Addr) (c : Nat) (w : World) (z : St) (hz : saneS p.D s = z) (hr : Kd.C k58 w A s.tab.length s.tab) (hl : s.tab.length ≤ 4096) :
    Calls Tryz.prog 7 #[.agg #[.int .i64 p.N, .int .i64 p.F, .int .i64 p.D, .int .i64 p.Be, .int .i64 p.Rho, .int .i64 p.De, .int .i64 p.Ji, .int .i64 p.Eps, .int .i64 p.Mu, .int .i64 p.Ho, .int .i64 p.Pu, .int .i64 p.Se], .int .i64 me, .agg #[.int .i64 s.lo, .int .i64 s.hi, .int .i64 s.time, .bool s.set, .int .i64 s.held, .int .i64 s.hops, .bool s.good, .slice A s.tab.length c, .int .i64 s.st, .int .i64 s.sn, .int .i64 s.life]] w fun e w' => ∃ g A' c', e = .returned (.pointer (some ⟨g, 0, none⟩)) ∧ w.heap.size ≤ g ∧ w'.heap[g]? = some (.cells #[.int .i64 p.N, .int .i64 p.F, .int .i64 p.D, .int .i64 p.Be, .int .i64 p.Rho, .int .i64 p.De, .int .i64 p.Ji, .int .i64 p.Eps, .int .i64 p.Mu, .int .i64 p.Ho, .int .i64 p.Pu, .int .i64 p.Se, .int .i64 z.lo, .int .i64 z.hi, .int .i64 z.time, .bool z.set, .int .i64 z.held, .int .i64 z.hops, .bool z.good, .slice A' z.tab.length c', .int .i64 z.st, .int .i64 z.sn, .int .i64 z.life, .int .i64 me] 41 (0, 0)) ∧ w'.ownsRow w.heap.size 58 2 (.slice A' z.tab.length c') z.tab.length (flL z.tab) ∧ (∀ ad, A' = some ad → ad.block ≠ g) ∧ Below w.heap.size w w' := by
  subst hz
  exact New_calls p me s A c w hr hl
end Go.Proofs.YtbmfgcekglgliaaGreat.G

namespace Go.Proofs.YtbmfgcekglgliaaGreat.G
open Go.RowKit Go.Proofs.YtbmfgcekglgliaaGreatW.PrintWords Go.Proofs.YtbmfgcekglgliaaGreatW.PrintLast Go.Proofs.YtbmfgcekglgliaaGreatW.PrintMore Go.Proofs.YtbmfgcekglgliaaGreatPl Go.Proofs.YtbmfgcekglgliaaGreatEm Go.Proofs.YtbmfgcekglgliaaGreatKr Go.Proofs.YtbmfgcekglgliaaGreatRz Go.Proofs.YtbmfgcekglgliaaGreat.X
set_option linter.unusedVariables false
set_option linter.unusedSimpArgs false
theorem RBeat_to (p : Par) (me : Int) (s : St) (A : Option Addr) (c : Nat) (x : Inp) (Ah : Option Addr) (ch : Nat) (Ax : Option Addr) (ct : Nat) (w : World) (U : St) (hU : beatS p me s x = U) (hr : Tr (fun _ => False) w (pR Ah x.heard Ax x.tab A s.tab)) (hl : x.heard.length ≤ 4096) (hlt : x.tab.length ≤ 4096) (hls : s.tab.length ≤ 4096) :
    Calls Tryz.prog 14 #[.agg #[.int .i64 p.N, .int .i64 p.F, .int .i64 p.D, .int .i64 p.Be, .int .i64 p.Rho, .int .i64 p.De, .int .i64 p.Ji, .int .i64 p.Eps, .int .i64 p.Mu, .int .i64 p.Ho, .int .i64 p.Pu, .int .i64 p.Se], .int .i64 me, .agg #[.int .i64 s.lo, .int .i64 s.hi, .int .i64 s.time, .bool s.set, .int .i64 s.held, .int .i64 s.hops, .bool s.good, .slice A s.tab.length c, .int .i64 s.st, .int .i64 s.sn, .int .i64 s.life], .agg #[.int .i64 x.ticks, .slice Ah x.heard.length ch, .bool x.ref, .int .i64 x.reading, .bool x.given, .slice Ax x.tab.length ct]] w fun e w' => ∃ A1 c1 A2 c2, e = .returned (.tuple #[.agg #[.int .i64 U.lo, .int .i64 U.hi, .int .i64 U.time, .bool U.set, .int .i64 U.held, .int .i64 U.hops, .bool U.good, .slice A1 U.tab.length c1, .int .i64 U.st, .int .i64 U.sn, .int .i64 U.life], .agg #[.int .i64 1, .int .i64 me, .int .i64 U.lo, .int .i64 U.hi, .int .i64 U.held, .int .i64 U.hops, .bool U.good, .bool (rdB p x), .int .i64 (snP p x).1, .int .i64 (snP p x).2, .int .i64 (pulseS p U), .int .i64 U.st, .int .i64 U.sn, .slice A2 U.tab.length c2]]) ∧ w'.ownsRow w.heap.size 58 2 (.slice A1 U.tab.length c1) U.tab.length (flL U.tab) ∧ w'.ownsRow w.heap.size 58 2 (.slice A2 U.tab.length c2) U.tab.length (flL U.tab) ∧ Below w.heap.size w w' := by
  subst hU
  exact RBeat_calls p me s A c x Ah ch Ax ct w hr hl hlt hls
theorem beatS_tab (p : Par) (me : Int) (s : St) (x : Inp) : (beatS p me s x).tab.length ≤ x.tab.length ∨ (beatS p me s x).tab.length ≤ s.tab.length := by
  show (saneS p.D (nextS p me s x)).tab.length ≤ _ ∨ (saneS p.D (nextS p me s x)).tab.length ≤ _
  have h := saneS_tab p.D (nextS p me s x)
  cases hg : x.given
  · exact .inr (Nat.le_trans h (by show (if x.given = true then x.tab else s.tab).length ≤ _; rw [hg]; exact Nat.le_refl _))
  · exact .inl (Nat.le_trans h (by show (if x.given = true then x.tab else s.tab).length ≤ _; rw [hg]; exact Nat.le_refl _))
set_option maxHeartbeats 2000000 in
set_option maxRecDepth 100000 in
theorem Beat_nil (w : World) (a : Value) (ha : a = .agg #[.int .i64 0, .slice none 0 0, .bool false, .int .i64 0, .bool false, .slice none 0 0]) : Calls Tryz.prog 13 #[.pointer none, a] w fun e w' => e = .returned (.agg #[.int .i64 0, .int .i64 0, .int .i64 0, .int .i64 0, .int .i64 0, .int .i64 0, .bool false, .bool false, .int .i64 0, .int .i64 0, .int .i64 0, .int .i64 0, .int .i64 0, .slice none 0 0]) ∧ Below w.heap.size w w' := by
  subst ha
  have H := Fr.start0 (M := fun _ => False) (A := fun _ => False) (w := w) (p := fun _ => True) (fun _ h => h.elim) (fun _ _ => trivial)
  go_enter Tryz.func13, Tryz.ntmps13
  go_wp2_with (first
    | ((with_reducible refine gate_dst (N := 3) rfl ?_); refine fr_box H rfl rfl rfl ?_; intro g3 w3 H1; clear H; have H := H1; clear H1)
    | ((with_reducible refine gate_dst (N := 4) rfl ?_); refine fr_new H (N := 4) rfl rfl (cs := #[.int .i64 0, .int .i64 0, .int .i64 0, .int .i64 0, .int .i64 0, .int .i64 0, .bool false, .bool false, .int .i64 0, .int .i64 0, .int .i64 0, .int .i64 0, .int .i64 0, .slice none 0 0]) (t := 47) ?hr ?_; (case hr => first | (go_simp; done) | (go_simp; rfl)); intro g4 w4 H1; clear H; have H := H1; clear H1)
    | ((with_reducible refine gate_store (t := 47) (p := 4) rfl ?_); refine fr_put H rfl rfl rfl rfl rfl (by repeat (first | exact At.head | apply At.tail)) (by rfl) (by kernel_rfl) (by simp [Value.oneCell']) ?_; intro w4_ H1; clear H; have H := H1; clear H1)
    | ((with_reducible refine gate_dst (N := 21) rfl ?_); refine fr_sub H (n := 12) rfl rfl rfl (by repeat (first | exact At.head | apply At.tail)) Tryz.underlying23 rfl (by kernel_rfl) (by simp only [List.toList_toArray, List.drop_succ_cons, List.drop_zero, List.take_succ_cons, List.take_zero]; rfl) (by rfl) ?_)
    | ((with_reducible refine gate_dst (N := 5) rfl ?_); refine fr_new H (N := 5) rfl rfl (cs := #[.int .i64 0, .int .i64 0, .int .i64 0, .int .i64 0, .int .i64 0, .int .i64 0, .int .i64 0, .int .i64 0, .int .i64 0, .int .i64 0, .int .i64 0, .int .i64 0]) (t := 23) ?hr ?_; (case hr => first | (go_simp; done) | (go_simp; rfl)); intro g5 w5 H1; clear H; have H := H1; clear H1)
    | ((with_reducible refine gate_store (t := 23) (p := 5) rfl ?_); refine fr_put H rfl rfl rfl rfl rfl (by repeat (first | exact At.head | apply At.tail)) (by rfl) (by kernel_rfl) (by simp [Value.oneCell']) ?_; intro w5_ H1; clear H; have H := H1; clear H1)
    | ((with_reducible refine gate_dst (N := 23) rfl ?_); refine fr_sub H (n := 12) rfl rfl rfl (by repeat (first | exact At.head | apply At.tail)) Tryz.underlying23 rfl (by kernel_rfl) (by simp only [List.toList_toArray, List.drop_succ_cons, List.drop_zero, List.take_succ_cons, List.take_zero]; rfl) (by rfl) ?_)
    | ((with_reducible refine gate_dst (N := 25) rfl ?_); refine fr_get H rfl rfl rfl (by repeat (first | exact At.head | apply At.tail)) Tryz.underlying3 rfl (by simp only [List.getElem?_toArray, List.getElem?_cons_succ, List.getElem?_cons_zero]; rfl) ?_)
    | ((with_reducible refine gate_dst (N := 6) rfl ?_); refine fr_new H (N := 6) rfl rfl (cs := #[.int .i64 0, .int .i64 0]) (t := 25) ?hr ?_; (case hr => first | (go_simp; done) | (go_simp; rfl)); intro g6 w6 H1; clear H; have H := H1; clear H1)
    | ((with_reducible refine gate_store (t := 25) (p := 6) rfl ?_); refine fr_put H rfl rfl rfl rfl rfl (by repeat (first | exact At.head | apply At.tail)) (by rfl) (by kernel_rfl) (by simp [Value.oneCell']) ?_; intro w6_ H1; clear H; have H := H1; clear H1)
    | fail)
  refine bodyPost_ret (results_c rfl _ _ g4 47 _ (0, 0) _ rfl (H.of (by repeat (first | exact At.head | apply At.tail))) Tryz.underlying47 rfl (by kernel_rfl)) rfl ?_
  exact ⟨rfl, H.below⟩
set_option maxHeartbeats 2000000 in
set_option maxRecDepth 100000 in
theorem Say_nil (kind from_ slo shi : Int) (rd : Bool) (w : World) : Calls Tryz.prog 15 #[.pointer none, .int .i64 kind, .int .i64 from_, .bool rd, .agg #[.int .i64 slo, .int .i64 shi]] w fun e w' => e = .returned (.agg #[.int .i64 0, .int .i64 0, .int .i64 0, .int .i64 0, .int .i64 0, .int .i64 0, .bool false, .bool false, .int .i64 0, .int .i64 0, .int .i64 0, .int .i64 0, .int .i64 0, .slice none 0 0]) ∧ Below w.heap.size w w' := by
  have H := Fr.start0 (M := fun _ => False) (A := fun _ => False) (w := w) (p := fun _ => True) (fun _ h => h.elim) (fun _ _ => trivial)
  go_enter Tryz.func15, Tryz.ntmps15
  go_wp2_with (first
    | ((with_reducible refine gate_dst (N := 9) rfl ?_); refine fr_box H rfl rfl rfl ?_; intro g9 w9 H1; clear H; have H := H1; clear H1)
    | ((with_reducible refine gate_dst (N := 10) rfl ?_); refine fr_new H (N := 10) rfl rfl (cs := #[.int .i64 0, .int .i64 0, .int .i64 0, .int .i64 0, .int .i64 0, .int .i64 0, .bool false, .bool false, .int .i64 0, .int .i64 0, .int .i64 0, .int .i64 0, .int .i64 0, .slice none 0 0]) (t := 47) ?hr ?_; (case hr => first | (go_simp; done) | (go_simp; rfl)); intro g10 w10 H1; clear H; have H := H1; clear H1)
    | ((with_reducible refine gate_store (t := 47) (p := 10) rfl ?_); refine fr_put H rfl rfl rfl rfl rfl (by repeat (first | exact At.head | apply At.tail)) (by rfl) (by kernel_rfl) (by simp [Value.oneCell']) ?_; intro w10_ H1; clear H; have H := H1; clear H1)
    | fail)
  refine bodyPost_ret (results_c rfl _ _ g10 47 _ (0, 0) _ rfl (H.of (by repeat (first | exact At.head | apply At.tail))) Tryz.underlying47 rfl (by kernel_rfl)) rfl ?_
  exact ⟨rfl, H.below⟩
def TabH (W : World) (h : Hd) : Prop := ∃ t : List Lp, t.length = h.n ∧ Kd.C k58 W h.A h.n t
def InAll (W : World) (A : Option Addr) (l : List InC) : Prop := RowI W A l ∧ ∀ y, y ∈ l → Kd.C k58 W y.Ax y.x.tab.length y.x.tab ∧ ∀ h, h ∈ y.x.heard → TabH W h
theorem great_all {n : Nat} {l : List InC} (h : greatP n l = false) : n ≤ 128 ∧ ∀ y, y ∈ l → y.x.heard.length ≤ 40 ∧ y.x.tab.length ≤ 128 ∧ ∀ z, z ∈ y.x.heard → z.n ≤ 128 := by
  unfold greatP at h
  simp only [Bool.or_eq_false_iff, decide_eq_false_iff_not] at h
  refine ⟨by omega, fun y hy => ?_⟩
  have h1 := List.any_eq_false.1 h.2 y hy
  unfold greatX at h1
  simp only [Bool.or_eq_true, not_or, decide_eq_true_eq, List.any_eq_true, not_exists, not_and] at h1
  refine ⟨by omega, by omega, fun z hz => ?_⟩
  have := h1.2 z hz
  omega
end Go.Proofs.YtbmfgcekglgliaaGreat.G
