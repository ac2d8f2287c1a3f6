/- Texts Gb2, Yi, Yj, Yk, in one file, without what is not needed here. -/
import Derived.Deep.DeepCutAuto
import Derived.Test.YtbmfgcekglgliaaGreatZGateKeeps9
namespace Go.Proofs.YtbmfgcekglgliaaGreat.G
open Go.RowKit Go.Proofs.YtbmfgcekglgliaaGreatW.PrintWords Go.Proofs.YtbmfgcekglgliaaGreatW.PrintLast Go.Proofs.YtbmfgcekglgliaaGreatW.PrintMore Go.Proofs.YtbmfgcekglgliaaGreatPl Go.Proofs.YtbmfgcekglgliaaGreatEm Go.Proofs.YtbmfgcekglgliaaGreatKr Go.Proofs.YtbmfgcekglgliaaGreatRz Go.Proofs.YtbmfgcekglgliaaGreat.X
set_option linter.unusedVariables false
set_option linter.unusedSimpArgs false
structure Inp where
  ticks : Int
  heard : List Hd
  ref : Bool
  reading : Int
  given : Bool
  tab : List Lp
def rdB (p : Par) (x : Inp) : Bool := seenB p x.reading && x.ref
def snP (p : Par) (x : Inp) : Int × Int := if rdB p x = true then seenP p x.reading else (0, 0)
def wayOf (p : Par) (h : Hd) : Sp := ⟨(wayP p h.slo h.shi h.age).1, (wayP p h.slo h.shi h.age).2⟩
def waysOf (p : Par) (l : List Hd) : List Sp := (l.filter (·.ref)).map (wayOf p)
def seenL (p : Par) (x : Inp) : List Sp := if rdB p x = true then [⟨(snP p x).1, (snP p x).2⟩] else []
def spansP (p : Par) (me : Int) (x : Inp) : List Sp := seenL p x ++ waysOf p (unB (told p.N me x.heard))
def nextS (p : Par) (me : Int) (s : St) (x : Inp) : St where
  lo := if (fuse p.F (spansP p me x)).2.2 = true then (fuse p.F (spansP p me x)).1 else sadd [s.lo, ssub x.ticks p.Rho]
  hi := if (fuse p.F (spansP p me x)).2.2 = true then (fuse p.F (spansP p me x)).2.1 else sadd [s.hi, sadd [x.ticks, p.Rho]]
  time := s.time
  set := s.set
  held := if (fuse p.F (spansP p me x)).2.2 = true then 0 else moreP s.held
  hops := 0
  good := if (fuse p.F (spansP p me x)).2.2 = true then true else s.good
  tab := if x.given = true then x.tab else s.tab
  st := s.st
  sn := s.sn
  life := s.life
def stampS (s : St) : St := { s with st := (tickP s.st s.sn s.time).1, sn := (tickP s.st s.sn s.time).2 }
def beatS0 (p : Par) (me : Int) (s : St) (x : Inp) : St := stepS p s x.ticks (nextS p me s x)
def beatS (p : Par) (me : Int) (s : St) (x : Inp) : St := stampS (beatS0 p me s x)
def flS (l : List Sp) : List Value := l.flatMap (fun x => [.int .i64 x.f0, .int .i64 x.f1])
theorem flS_snoc (l : List Sp) (x : Sp) : flS (l ++ [x]) = flS l ++ [.int .i64 x.f0, .int .i64 x.f1] := by unfold flS; rw [List.flatMap_append]; simp
theorem flS_one (a b : Int) : ∀ u ∈ [Value.int .i64 a, .int .i64 b], u.oneCell' = true := by
  intro u hu
  simp at hu
  rcases hu with rfl | rfl <;> rfl
theorem flS_at : ∀ (l : List Sp) (j i : Nat) (q : Sp) (u : Value), l[j]? = some q → [Value.int .i64 q.f0, .int .i64 q.f1][i]? = some u → (flS l)[j * 2 + i]? = some u
  | [], j, i, q, u, h, _ => by simp at h
  | x :: l, 0, i, q, u, h, hu => by
    simp at h
    subst h
    rw [show 0 * 2 + i = i by omega]
    show ([Value.int .i64 x.f0, .int .i64 x.f1] ++ flS l)[i]? = some u
    rw [List.getElem?_append_left (List.getElem?_eq_some_iff.1 hu).1]
    exact hu
  | x :: l, j + 1, i, q, u, h, hu => by
    have := flS_at l j i q u (by simpa using h) hu
    rw [show (j + 1) * 2 + i = j * 2 + i + 1 + 1 by omega]
    exact this
theorem rowS_C {W : World} {b n c : Nat} {A : Option Addr} {l : List Sp} (h : W.ownsRow b 25 2 (.slice A n c) n (flS l)) (hn : l.length = n) : n ≤ c ∧ Kd.C k25 W A n l := by
  obtain ⟨h1, h2 | ⟨g, cap, cur, h2, h3, h4, h5, h6, h7, h8⟩⟩ := h
  · obtain ⟨h2, h3⟩ := h2
    injection h2 with e1 e2 e3
    exact ⟨by omega, ⟨hn, by omega, fun h => by omega⟩⟩
  · injection h2 with e1 e2 e3
    subst e1 e3
    refine ⟨h5, ⟨hn, by unfold maxLen at h6; omega, fun _ => ⟨_, rfl, fun j q hq => ?_⟩⟩⟩
    refine ⟨[.int .i64 q.f0, .int .i64 q.f1], rfl, k25_mk W q, fun i u hu => ?_⟩
    have hj : j < l.length := (List.getElem?_eq_some_iff.1 hq).1
    have hi : i < 2 := (List.getElem?_eq_some_iff.1 hu).1
    show W.cell? ((⟨g, 0, none⟩ : Addr).add (j * 2 + i)) = _
    rw [show ((⟨g, 0, none⟩ : Addr).add (j * 2 + i)) = ⟨g, j * 2 + i, none⟩ by
      unfold Addr.add
      split
      · rename_i h0; simp at h0; obtain ⟨e1, e2⟩ := h0; rw [show j * 2 + i = 0 by omega]
      · simp, blk_cell h4]
    have e : (flS l)[j * 2 + i]? = some u := flS_at l j i q u hq hu
    rw [← h8, List.getElem?_take] at e
    split at e
    · simpa using e
    · cases e
theorem infoS : (Tryz.prog.info? 25).map (fun i => (i.zero, i.size, i.bytes)) = some (some (.agg #[.int .i64 0, .int .i64 0]), 2, 16) := by kernel_rfl
theorem Fr.appended2 {M A : Nat → Prop} {w W W1 : World} {bl : List (Nat × Obj)} {p q : World → Prop} {e : TypeId} {sz n c : Nat} {Ao : Option Addr} {xs : List Value} (H : Fr M A w W bl q) (hM : ∀ k, M k → A k) (hp0 : Tr A w p) (hO : W.ownsRow w.heap.size e sz (.slice Ao n c) n xs) (hne : ∀ x, x ∈ bl → ∀ ad, Ao = some ad → x.1 ≠ ad.block) (hg : W.grownBy W1 (Value.slice Ao n c).ownBlock) : Fr M A w W1 bl p := by
  have hb : ∀ k, (Value.slice Ao n c).ownBlock = some k → ∃ ad, Ao = some ad ∧ ad.block = k := fun k hk => by
    cases Ao with
    | none => cases hk
    | some ad => exact ⟨ad, rfl, by injection hk⟩
  have hr : ∀ k, (Value.slice Ao n c).ownBlock = some k → w.heap.size ≤ k ∧ ¬ Of bl k := fun k hk => by
    obtain ⟨ad, e1, rfl⟩ := hb k hk
    exact ⟨(own_lo hO ad e1).1, fun ⟨x, hx, e2⟩ => hne x hx ad e1 e2⟩
  have hold : ∀ k, Of bl k → k < w.heap.size → A k := fun k ⟨x, hx, e1⟩ hk => by
    rcases (H.blk x hx).2 with q | q
    · omega
    · exact hM k (e1 ▸ q)
  have H1 : Fr M A w W bl p := ⟨H.av, H.chg, H.blk, H.nd, Tr.later hp0 H.chg hM (fun k hk hl => hk.elim id (fun h => hold k h hl))⟩
  refine Fr.grow H1 hg hr (Tr.later hp0 H.chg hM (fun k hk hl => ?_))
  rcases hk with (hk | hk) | hk
  · exact hk
  · exact hold k hk hl
  · have := (hr k hk).1
    omega
theorem own_grown {W W1 : World} {b : Nat} {e : TypeId} {sz n : Nat} {v : Value} {xs : List Value} {r : Option Nat} (h : W.ownsRow b e sz v n xs) (hg : W.grownBy W1 r) (hne : ∀ k, v.ownBlock = some k → some k ≠ r) : W1.ownsRow b e sz v n xs := by
  refine ⟨h.1, ?_⟩
  rcases h.2 with h2 | ⟨g, cap, cur, h2, h3, h4, h5⟩
  · exact .inl h2
  · refine .inr ⟨g, cap, cur, h2, h3, ?_, h5⟩
    rw [hg.block g (Go.Proofs.YtbmfgcekglgliaaGreatEm.obj_lt h4) (hne g (by rw [h2]; rfl))]
    exact h4
theorem own_apart {W : World} {b b' : Nat} {e e' : TypeId} {sz n sz' n' : Nat} {v v' : Value} {xs xs' : List Value} (h : W.ownsRow b e sz v n xs) (h' : W.ownsRow b' e' sz' v' n' xs') (he : e ≠ e') : ∀ k, v.ownBlock = some k → some k ≠ v'.ownBlock := by
  intro k hk hk'
  rcases h.2 with ⟨rfl, _⟩ | ⟨g, cap, cur, rfl, h3, h4, h5⟩
  · cases hk
  · rcases h'.2 with ⟨rfl, _⟩ | ⟨g', cap', cur', rfl, h3', h4', h5'⟩
    · cases hk'
    · have e1 : g = k := by injection hk
      have e2 : k = g' := by injection hk'
      subst e1 e2
      rw [h4] at h4'
      injection h4' with h4'
      injection h4' with _ h4'
      exact he h4'
theorem Tr_own2 {M A : Nat → Prop} {w W : World} {bl : List (Nat × Obj)} {p : World → Prop} {b b' : Nat} {e : TypeId} {sz n : Nat} {v : Value} {xs : List Value} (H : Fr M A w W bl p) (h : W.ownsRow b e sz v n xs) (hb : b' ≤ b) (hw : w.heap.size ≤ b) (hne : ∀ x, x ∈ bl → ∃ cs t, x.2 = .cells cs t (0, 0) ∧ t ≠ e) : Tr (fun k => A k ∨ Of bl k) W (fun W1 => W1.ownsRow b' e sz v n xs) := by
  intro W1 hW
  refine ⟨h.1, ?_⟩
  rcases h.2 with h2 | ⟨g, cap, cur, h2, h3, h4, h5⟩
  · exact .inl h2
  · refine .inr ⟨g, cap, cur, h2, Nat.le_trans hb h3, ?_, h5⟩
    rw [hW g (fun hk => ?_) (Go.Proofs.YtbmfgcekglgliaaGreatEm.obj_lt h4)]
    · exact h4
    · rcases hk with hk | ⟨x, hx, e1⟩
      · have := H.av g hk; omega
      · obtain ⟨cs, t, e2, e3⟩ := hne x hx
        have := (H.blk x hx).1
        rw [e1, e2, h4] at this
        injection this with this
        injection this with _ this
        exact e3 this.symm
theorem Fr.turnRow {M A : Nat → Prop} {w W W1 : World} {bl bl' : List (Nat × Obj)} {p : World → Prop} {g : Nat} {old new : Obj} {e : TypeId} {sz n : Nat} {v : Value} {xs : List Value} (h : Fr M A w W bl p) (ha : At bl g old new bl') (hb : W1.heap[g]? = some new) (hc : Chg (fun k => k = g) W W1) (ho : W1.ownsRow W.heap.size e sz v n xs) : Fr M A w W1 bl' (fun W => p W ∧ W.ownsRow w.heap.size e sz v n xs) := by
  refine (h.turn ha hb hc).and ?_
  intro W2 hW
  refine ⟨ho.1, ?_⟩
  rcases ho.2 with h2 | ⟨g1, cap, cur, h2, h3, h4, h5⟩
  · exact .inl h2
  · refine .inr ⟨g1, cap, cur, h2, Nat.le_trans h.chg.size h3, ?_, h5⟩
    rw [hW g1 (fun hk => ?_) (Go.Proofs.YtbmfgcekglgliaaGreatEm.obj_lt h4)]
    · exact h4
    · have := h.avs g1 (hk.imp id (ha.of g1).1)
      omega
end Go.Proofs.YtbmfgcekglgliaaGreat.G

namespace Go.Proofs.YtbmfgcekglgliaaGreat.G
open Go.RowKit Go.Proofs.YtbmfgcekglgliaaGreatW.PrintWords Go.Proofs.YtbmfgcekglgliaaGreatW.PrintLast Go.Proofs.YtbmfgcekglgliaaGreatW.PrintMore Go.Proofs.YtbmfgcekglgliaaGreatPl Go.Proofs.YtbmfgcekglgliaaGreatEm Go.Proofs.YtbmfgcekglgliaaGreatKr Go.Proofs.YtbmfgcekglgliaaGreatRz Go.Proofs.YtbmfgcekglgliaaGreat.X
set_option linter.unusedVariables false
set_option linter.unusedSimpArgs false
theorem own_shape2 {W : World} {b n : Nat} {e : TypeId} {sz : Nat} {v : Value} {xs : List Value} (h : W.ownsRow b e sz v n xs) (hn : v ≠ .slice none 0 0) : ∃ g4 cap, v = .slice (some ⟨g4, 0, none⟩) n cap ∧ n ≤ cap ∧ v.ownBlock = some g4 := by
  rcases h.2 with ⟨h3, _⟩ | ⟨g4, cap, cur, rfl, h3, h4, h5, _⟩
  · exact absurd h3 hn
  · exact ⟨g4, cap, rfl, h5, rfl⟩
theorem Fr.appendedRow {M A : Nat → Prop} {w W W1 : World} {bl : List (Nat × Obj)} {p q : World → Prop} {e : TypeId} {sz n c n2 c2 g4 : Nat} {Ao : Option Addr} {xs ys : List Value} (H : Fr M A w W bl q) (hM : ∀ k, M k → A k) (hp0 : Tr A w p) (hO : W.ownsRow w.heap.size e sz (.slice Ao n c) n xs) (hne : ∀ x, x ∈ bl → ∀ ad, Ao = some ad → x.1 ≠ ad.block) (hg : W.grownBy W1 (Value.slice Ao n c).ownBlock)
    (hown : W1.ownsRow w.heap.size e sz (.slice (some ⟨g4, 0, none⟩) n2 c2) n2 ys) (hat : some g4 = (Value.slice Ao n c).ownBlock ∨ some g4 = some W.heap.size) : Fr M A w W1 bl (fun W => p W ∧ W.ownsRow w.heap.size e sz (.slice (some ⟨g4, 0, none⟩) n2 c2) n2 ys) := by
  refine (Fr.appended2 H hM hp0 hO hne hg).and (Tr_own hown (Nat.le_refl _) (fun k ad hk ha => ?_))
  cases ha
  show k ≠ g4
  rcases hat with h1 | h1
  · cases Ao with
    | none => cases h1
    | some a8 =>
      have h2 : g4 = a8.block := by injection h1
      rcases hk with hk | ⟨x, hx, e1⟩
      · have := H.av k hk
        have := (own_lo hO a8 rfl).1
        omega
      · rw [h2, ← e1]
        exact hne x hx a8 rfl
  · have h2 : g4 = W.heap.size := by injection h1
    have := H.avs k hk
    omega
theorem hne_rows {M A : Nat → Prop} {w W : World} {bl : List (Nat × Obj)} {p : World → Prop} {b : Nat} {e : TypeId} {sz n c : Nat} {Ao : Option Addr} {xs : List Value} (H : Fr M A w W bl p) (h : W.ownsRow b e sz (.slice Ao n c) n xs) (hne : ∀ x, x ∈ bl → ∃ cs t, x.2 = .cells cs t (0, 0) ∧ t ≠ e) : ∀ x, x ∈ bl → ∀ ad, Ao = some ad → x.1 ≠ ad.block := by
  intro x hx ad ha
  obtain ⟨cs, t, e1, e2⟩ := hne x hx
  have := (H.blk x hx).1
  rw [e1] at this
  exact own_ne h this e2 ad ha
theorem own_empty {W : World} {b x : Nat} {t : TypeId} {sz : Nat} (h : W.heap[x]? = some (.cells #[] t (0, 0))) (hb : b ≤ x) : W.ownsRow b t sz (.slice (some ⟨x, 0, none⟩) 0 0) 0 [] :=
  ⟨by simp, .inr ⟨x, 0, #[], rfl, hb, h, Nat.le_refl _, by unfold maxLen; omega, by simp, by simp⟩⟩
set_option maxRecDepth 100000 in
set_option maxHeartbeats 16000000 in
theorem RSane_calls (p : Par) (s : St) (A : Option Addr) (c : Nat) (w : World) (hr : Kd.C k58 w A s.tab.length s.tab) (hl : s.tab.length ≤ 4096) :
    Calls Tryz.prog 8 #[.agg #[.int .i64 p.N, .int .i64 p.F, .int .i64 p.D, .int .i64 p.Be, .int .i64 p.Rho, .int .i64 p.De, .int .i64 p.Ji, .int .i64 p.Eps, .int .i64 p.Mu, .int .i64 p.Ho, .int .i64 p.Pu, .int .i64 p.Se], .agg #[.int .i64 s.lo, .int .i64 s.hi, .int .i64 s.time, .bool s.set, .int .i64 s.held, .int .i64 s.hops, .bool s.good, .slice A s.tab.length c, .int .i64 s.st, .int .i64 s.sn, .int .i64 s.life]] w fun e w' => ∃ A' c', e = .returned (.agg #[.int .i64 (saneS p.D s).lo, .int .i64 (saneS p.D s).hi, .int .i64 (saneS p.D s).time, .bool (saneS p.D s).set, .int .i64 (saneS p.D s).held, .int .i64 (saneS p.D s).hops, .bool (saneS p.D s).good, .slice A' (saneS p.D s).tab.length c', .int .i64 (saneS p.D s).st, .int .i64 (saneS p.D s).sn, .int .i64 (saneS p.D s).life]) ∧ w'.ownsRow w.heap.size 58 2 (.slice A' (saneS p.D s).tab.length c') (saneS p.D s).tab.length (flL (saneS p.D s).tab) ∧ Below w.heap.size w w' := by
  obtain ⟨lo, hi, time, set, held, hops, good, tab, st, sn, life⟩ := s
  obtain ⟨bn, bf, D, be, rho, de, ji, eps, mu, ho, pu, se⟩ := p
  dsimp only at hr hl ⊢
  obtain ⟨i0, hi0, hz0, hz1, hz2⟩ := info_parts infoL
  have HR0 : Hid (Tr (fun _ => False) w (fun W => Kd.C k58 W A tab.length tab)) := Lib.hid (Go.Proofs.YtbmfgcekglgliaaGreatEv.Tr.of_C hr k58_heap)
  have H := Fr.start0 (M := fun _ => False) (A := fun _ => False) (w := w) (p := fun W => Kd.C k58 W A tab.length tab) (fun _ h => h.elim) HR0.out
  obtain ⟨n, hn⟩ : ∃ n, tab.length = n := ⟨_, rfl⟩
  obtain ⟨b, hb⟩ : ∃ b, decide (clip hi < clip lo) = b := ⟨_, rfl⟩
  obtain ⟨g, hg⟩ : ∃ g, gd tab = g := ⟨_, rfl⟩
  obtain ⟨r, hr2⟩ : ∃ r, rightP st sn = r := ⟨_, rfl⟩
  have HG := Lib.hid hg
  have HN := Lib.hid hn
  have HL := Lib.hid hl
  have HS : Hid (saneS D ⟨lo, hi, time, set, held, hops, good, tab, st, sn, life⟩ = ⟨if b = true then -2305843009213693952 else clip lo, if b = true then 2305843009213693952 else clip hi, clip time, set, bound held 0 1073741824, bound hops 0 (sadd [D, 1]), if b = true then false else good, if g = true then tab else [], if r = true then st else clip time, if r = true then sn else 0, bound life 0 2305843009213693952⟩) := Lib.hid (by
    unfold saneS hollow
    rw [← hb, ← hg, ← hr2])
  have HGD : Hid (∀ W, Kd.C k58 W A tab.length tab → Calls Tryz.prog 24 #[.slice A n c] W fun e w' => e = .returned (.bool g) ∧ Below W.heap.size W w') := Lib.hid (fun W h => by
    have := RGood_calls A c tab W h
    rw [hn, hg] at this
    exact this)
  have HR : Hid (∀ W, Calls Tryz.prog 25 #[.agg #[.int .i64 st, .int .i64 sn]] W fun e w' => e = .returned (.bool r) ∧ Below W.heap.size W w') := Lib.hid (fun W => hr2 ▸ RRight_calls _ _ W)
  have HFL : Hid ((flL tab).length = n * 2) := Lib.hid (by rw [flL_length, hn])
  have HNB : Hid (n ≤ 4096) := Lib.hid (hn ▸ hl)
  rw [HS.out]
  rw [hn]
  clear hr hl hn hg hr2
  go_enter Tryz.func8, Tryz.ntmps8
  cases b
  all_goals
    go_wp2_with (first
      | (go_at_call 20; (with_reducible refine (RSpanOf_calls _ _ _).mono ?_); rintro e w' ⟨rfl, hb⟩; have H1 := H.call hb; clear hb; replace H := H1; clear H1)
      | (go_at_call 21; (with_reducible refine (RClip_calls _ _).mono ?_); rintro e w' ⟨rfl, rfl⟩)
      | (go_at_call 22; (with_reducible refine (RBound_calls _ _ _ _).mono ?_); rintro e w' ⟨rfl, rfl⟩)
      | ((with_reducible refine gate_dst (N := 2) rfl ?_); refine fr_box H rfl rfl rfl ?_; intro g2 w2 H1; replace H := H1; clear H1)
      | ((with_reducible refine gate_dst (N := 3) rfl ?_); refine fr_box H rfl rfl rfl ?_; intro g3 w3 H1; replace H := H1; clear H1)
      | ((with_reducible refine gate_dst (N := 4) rfl ?_); refine fr_new H (N := 4) rfl rfl (cs := #[.int .i64 0, .int .i64 0, .int .i64 0, .bool false, .int .i64 0, .int .i64 0, .bool false, .slice none 0 0, .int .i64 0, .int .i64 0, .int .i64 0]) (t := 30) ?hr ?_; (case hr => first | (go_simp; done) | (go_simp; rfl)); intro g4 w4 H1; replace H := H1; clear H1)
      | ((with_reducible refine gate_dst (N := 7) rfl ?_); refine fr_get H rfl rfl rfl (by repeat (first | exact At.head | apply At.tail)) Tryz.underlying3 rfl (by simp only [List.getElem?_toArray, List.getElem?_cons_succ, List.getElem?_cons_zero]; rfl) ?_)
      | ((with_reducible refine gate_dst (N := 10) rfl ?_); refine fr_get H rfl rfl rfl (by repeat (first | exact At.head | apply At.tail)) Tryz.underlying3 rfl (by simp only [List.getElem?_toArray, List.getElem?_cons_succ, List.getElem?_cons_zero]; rfl) ?_)
      | ((with_reducible refine gate_store (t := 25) (p := 12) rfl ?_); refine fr_set H (u := .agg (List.toArray _)) rfl rfl rfl rfl rfl (by repeat (first | exact At.head | apply At.tail)) (Nat.le_of_ble_eq_true rfl) (by simp only [Value.cells, List.take_succ_cons, List.take_zero, List.drop_succ_cons, List.drop_zero, List.cons_append, List.nil_append, List.size_toArray, List.length_cons, List.length_nil, Nat.reduceAdd, List.append_nil, List.drop_nil, List.take_nil, List.toList_toArray]; rfl) (by kernel_rfl) (by simp [Value.cells, Value.oneCell']) ?_; intro w12_ H1; replace H := H1; clear H1)
      | ((with_reducible refine gate_dst (N := 15) rfl ?_); refine fr_get H rfl rfl rfl (by repeat (first | exact At.head | apply At.tail)) Tryz.underlying3 rfl (by simp only [List.getElem?_toArray, List.getElem?_cons_succ, List.getElem?_cons_zero]; rfl) ?_)
      | ((with_reducible refine gate_dst (N := 18) rfl ?_); refine fr_get H rfl rfl rfl (by repeat (first | exact At.head | apply At.tail)) Tryz.underlying3 rfl (by simp only [List.getElem?_toArray, List.getElem?_cons_succ, List.getElem?_cons_zero]; rfl) ?_)
      | ((with_reducible refine gate_store (t := 25) (p := 21) rfl ?_); refine fr_set H (u := .agg (List.toArray _)) rfl rfl rfl rfl rfl (by repeat (first | exact At.head | apply At.tail)) (Nat.le_of_ble_eq_true rfl) (by simp only [Value.cells, List.take_succ_cons, List.take_zero, List.drop_succ_cons, List.drop_zero, List.cons_append, List.nil_append, List.size_toArray, List.length_cons, List.length_nil, Nat.reduceAdd, List.append_nil, List.drop_nil, List.take_nil, List.toList_toArray]; rfl) (by kernel_rfl) (by simp [Value.cells, Value.oneCell']) ?_; intro w21_ H1; replace H := H1; clear H1)
      | ((with_reducible refine gate_store (t := 4) (p := 22) rfl ?_); refine fr_set H (u := .bool _) rfl rfl rfl rfl rfl (by repeat (first | exact At.head | apply At.tail)) (Nat.le_of_ble_eq_true rfl) (by simp only [Value.cells, List.take_succ_cons, List.take_zero, List.drop_succ_cons, List.drop_zero, List.cons_append, List.nil_append, List.size_toArray, List.length_cons, List.length_nil, Nat.reduceAdd, List.append_nil, List.drop_nil, List.take_nil, List.toList_toArray]; rfl) (by kernel_rfl) (by simp [Value.cells, Value.oneCell']) ?_; intro w22_ H1; replace H := H1; clear H1)
      | ((with_reducible refine gate_dst (N := 24) rfl ?_); refine fr_get H rfl rfl rfl (by repeat (first | exact At.head | apply At.tail)) Tryz.underlying3 rfl (by simp only [List.getElem?_toArray, List.getElem?_cons_succ, List.getElem?_cons_zero]; rfl) ?_)
      | ((with_reducible refine gate_store (t := 3) (p := 26) rfl ?_); refine fr_set H (u := .int .i64 _) rfl rfl rfl rfl rfl (by repeat (first | exact At.head | apply At.tail)) (Nat.le_of_ble_eq_true rfl) (by simp only [Value.cells, List.take_succ_cons, List.take_zero, List.drop_succ_cons, List.drop_zero, List.cons_append, List.nil_append, List.size_toArray, List.length_cons, List.length_nil, Nat.reduceAdd, List.append_nil, List.drop_nil, List.take_nil, List.toList_toArray]; rfl) (by kernel_rfl) (by simp [Value.cells, Value.oneCell']) ?_; intro w26_ H1; replace H := H1; clear H1)
      | ((with_reducible refine gate_dst (N := 28) rfl ?_); refine fr_get H rfl rfl rfl (by repeat (first | exact At.head | apply At.tail)) Tryz.underlying3 rfl (by simp only [List.getElem?_toArray, List.getElem?_cons_succ, List.getElem?_cons_zero]; rfl) ?_)
      | ((with_reducible refine gate_store (t := 3) (p := 30) rfl ?_); refine fr_set H (u := .int .i64 _) rfl rfl rfl rfl rfl (by repeat (first | exact At.head | apply At.tail)) (Nat.le_of_ble_eq_true rfl) (by simp only [Value.cells, List.take_succ_cons, List.take_zero, List.drop_succ_cons, List.drop_zero, List.cons_append, List.nil_append, List.size_toArray, List.length_cons, List.length_nil, Nat.reduceAdd, List.append_nil, List.drop_nil, List.take_nil, List.toList_toArray]; rfl) (by kernel_rfl) (by simp [Value.cells, Value.oneCell']) ?_; intro w30_ H1; replace H := H1; clear H1)
      | fail)
    refine ro_start (Frs _ _ _ _ _) [8] [0, 1, 2, 3, 4, 5, 6, 7, 8] 9 (by kernel_rfl) (by rfl) (by simp only [pickR, List.getElem?_cons_succ, List.getElem?_cons_zero]; rfl) (by rfl) (H.drewN 1) (fun HS => ?_)
    have H1 : Fr _ _ _ _ _ _ := HS
    clear HS H
    have H := H1
    clear H1
    repeat (first
      | ((with_reducible refine rz_call (f := 22) rfl ?_); refine ro_quiet 22 _ rfl (by kernel_rfl) (fun _ _ _ h => h) (by rfl) Tryz.func22 (by kernel_rfl) rfl (by simp only [List.map_toArray, List.map_cons, List.map_nil]; rfl) H (fun w _ => RBound_calls _ _ _ _) ?_; (try simp only [Act.put, lsA, lsZ, lsS, Nat.reduceAdd]))
      | ((with_reducible refine rz_call (f := 23) rfl ?_); refine ro_call 23 _ rfl (by kernel_rfl) (by kernel_rfl) (by rfl) Tryz.func23 (by kernel_rfl) rfl (by simp only [List.map_toArray, List.map_cons, List.map_nil]; rfl) ?_; (refine (RAdd2 hx35).mono ?_); rintro e w' ⟨rfl, hb⟩; have H1 := H.call hb; refine ⟨_, rfl, H1, fun _ => ?_⟩; clear hb; replace H := H1; clear H1; (try simp only [Act.put, lsA, lsZ, lsS, Nat.reduceAdd]))
      | ((with_reducible refine rz_load (ty := 3) rfl ?_); refine ro_get H rfl (by kernel_rfl) (fun _ _ _ h => h) (by rfl) (by rfl) (by repeat (first | exact At.head | apply At.tail)) Tryz.underlying3 rfl (by simp only [List.getElem?_toArray, List.getElem?_cons_succ, List.getElem?_cons_zero]; rfl) ?_; (try simp only [Act.put, lsA, lsZ, lsS, Nat.reduceAdd]))
      | ((with_reducible refine rz_dst (N := 35) rfl ?_); refine ro_row H (by kernel_rfl) (by kernel_rfl) (by rfl) (fun K hK => by go_simp; exact hK.out) ?_; intro x35 w1 hx35 H1; replace H := H1; clear H1; (try simp only [Act.put, lsA, lsZ, lsS, Nat.reduceAdd]))
      | ((with_reducible refine rz_store (ty := 3) rfl ?_); refine ro_set H (u := .int .i64 _) rfl rfl (by kernel_rfl) (by kernel_rfl) (by rfl) (by rfl) (by rfl) (by repeat (first | exact At.head | apply At.tail)) (Nat.le_of_ble_eq_true rfl) (by simp only [Value.cells, List.take_succ_cons, List.take_zero, List.drop_succ_cons, List.drop_zero, List.cons_append, List.nil_append, List.size_toArray, List.length_cons, List.length_nil, Nat.reduceAdd, List.append_nil, List.drop_nil, List.take_nil, List.toList_toArray]; rfl) (by kernel_rfl) (by simp [Value.cells, Value.oneCell']) ?_; intro w1 H1; replace H := H1; clear H1; (try simp only [Act.put, lsA, lsZ, lsS, Nat.reduceAdd]))
      | (refine ro_off (by kernel_rfl) (fun _ _ _ h => h) (by rfl) ?_; (try simp only [Act.put, lsA, lsZ, lsS, Nat.reduceAdd]))
      | (refine ro_pure (by kernel_rfl) (fun _ _ _ h => h) (by rfl) (fun W K hK => by go_simp; exact hK.out) ?_; (try simp only [Act.put, lsA, lsZ, lsS, Nat.reduceAdd])))
    refine ro_done (by kernel_rfl) ?_
    go_wp2_with (first
      | (go_at_call 22; (with_reducible refine (RBound_calls _ _ _ _).mono ?_); rintro e w' ⟨rfl, rfl⟩)
      | ((with_reducible refine gate_dst (N := 40) rfl ?_); refine fr_get H rfl rfl rfl (by repeat (first | exact At.head | apply At.tail)) Tryz.underlying3 rfl (by simp only [List.getElem?_toArray, List.getElem?_cons_succ, List.getElem?_cons_zero]; rfl) ?_)
      | ((with_reducible refine gate_store (t := 3) (p := 42) rfl ?_); refine fr_set H (u := .int .i64 _) rfl rfl rfl rfl rfl (by repeat (first | exact At.head | apply At.tail)) (Nat.le_of_ble_eq_true rfl) (by simp only [Value.cells, List.take_succ_cons, List.take_zero, List.drop_succ_cons, List.drop_zero, List.cons_append, List.nil_append, List.size_toArray, List.length_cons, List.length_nil, Nat.reduceAdd, List.append_nil, List.drop_nil, List.take_nil, List.toList_toArray]; rfl) (by kernel_rfl) (by simp [Value.cells, Value.oneCell']) ?_; intro w42_ H1; replace H := H1; clear H1)
      | ((with_reducible refine gate_dst (N := 44) rfl ?_); refine fr_get H rfl rfl rfl (by repeat (first | exact At.head | apply At.tail)) Tryz.underlying26 rfl (by simp only [List.getElem?_toArray, List.getElem?_cons_succ, List.getElem?_cons_zero]; rfl) ?_)
      | fail)
    cases g
    · go_wp2_with (first
        | (go_at_call 24; (with_reducible refine (HGD.out _ H.now).mono ?_); rintro e w' ⟨rfl, hb⟩; have H1 := H.call hb; clear hb; replace H := H1; clear H1)
        | ((with_reducible refine gate_store (t := 26) (p := 51) rfl ?_); refine fr_set H (u := .slice _ _ _) rfl rfl rfl rfl rfl (by repeat (first | exact At.head | apply At.tail)) (Nat.le_of_ble_eq_true rfl) (by simp only [Value.cells, List.take_succ_cons, List.take_zero, List.drop_succ_cons, List.drop_zero, List.cons_append, List.nil_append, List.size_toArray, List.length_cons, List.length_nil, Nat.reduceAdd, List.append_nil, List.drop_nil, List.take_nil, List.toList_toArray]; rfl) (by kernel_rfl) (by simp [Value.cells, Value.oneCell']) ?_; intro w51_ H1; replace H := H1; clear H1)
        | ((with_reducible refine gate_dst (N := 53) rfl ?_); refine fr_sub H (n := 2) rfl rfl rfl (by repeat (first | exact At.head | apply At.tail)) Tryz.underlying28 rfl (by kernel_rfl) (by simp only [List.toList_toArray, List.drop_succ_cons, List.drop_zero, List.take_succ_cons, List.take_zero]; rfl) (by rfl) ?_)
        | fail)
      cases r
      all_goals
        go_wp2_with (first
          | (go_at_call 25; (with_reducible refine (HR.out _).mono ?_); rintro e w' ⟨rfl, hb⟩; have H1 := H.call hb; clear hb; replace H := H1; clear H1)
          | ((with_reducible refine gate_dst (N := 53) rfl ?_); refine fr_sub H (n := 2) rfl rfl rfl (by repeat (first | exact At.head | apply At.tail)) Tryz.underlying28 rfl (by kernel_rfl) (by simp only [List.toList_toArray, List.drop_succ_cons, List.drop_zero, List.take_succ_cons, List.take_zero]; rfl) (by rfl) ?_)
          | ((with_reducible refine gate_dst (N := 57) rfl ?_); refine fr_get H rfl rfl rfl (by repeat (first | exact At.head | apply At.tail)) Tryz.underlying3 rfl (by simp only [List.getElem?_toArray, List.getElem?_cons_succ, List.getElem?_cons_zero]; rfl) ?_)
          | ((with_reducible refine gate_store (t := 28) (p := 59) rfl ?_); refine fr_set H (u := .agg (List.toArray _)) rfl rfl rfl rfl rfl (by repeat (first | exact At.head | apply At.tail)) (Nat.le_of_ble_eq_true rfl) (by simp only [Value.cells, List.take_succ_cons, List.take_zero, List.drop_succ_cons, List.drop_zero, List.cons_append, List.nil_append, List.size_toArray, List.length_cons, List.length_nil, Nat.reduceAdd, List.append_nil, List.drop_nil, List.take_nil, List.toList_toArray]; rfl) (by kernel_rfl) (by simp [Value.cells, Value.oneCell']) ?_; intro w59_ H1; replace H := H1; clear H1)
          | ((with_reducible refine gate_dst (N := 60) rfl ?_); refine fr_sub H (n := 11) rfl rfl rfl (by repeat (first | exact At.head | apply At.tail)) Tryz.underlying30 rfl (by kernel_rfl) (by simp only [List.toList_toArray, List.drop_succ_cons, List.drop_zero, List.take_succ_cons, List.take_zero]; rfl) (by rfl) ?_)
          | ((with_reducible refine gate_store (t := 30) (p := 4) rfl ?_); refine fr_put H rfl rfl rfl rfl rfl (by repeat (first | exact At.head | apply At.tail)) (by rfl) (by kernel_rfl) (by simp [Value.oneCell']) ?_; intro w4_ H1; replace H := H1; clear H1)
          | fail)
        refine bodyPost_ret (results_c rfl _ _ g4 30 _ (0, 0) _ rfl (H.of (by repeat (first | exact At.head | apply At.tail))) Tryz.underlying30 rfl (by kernel_rfl)) rfl ?_
        exact ⟨none, 0, rfl, World.ownsRow_nil _ _ _ _, H.below⟩
    · cases A with
      | none =>
        have h0 : tab = [] := by
          cases tab with
          | nil => rfl
          | cons x r =>
            obtain ⟨ad, e, _⟩ := leap_row H.now (Below.refl _ _) 0 (by simp)
            cases e
        have hn0 : n = 0 := by rw [← HN.out, h0]; rfl
        have HT0 := Lib.hid h0
        subst hn0
        clear h0
        go_wp2_with (first
          | (go_at_call 24; (with_reducible refine (HGD.out _ H.now).mono ?_); rintro e w' ⟨rfl, hb⟩; have H1 := H.call hb; clear hb; replace H := H1; clear H1)
          | ((with_reducible refine gate_dst (N := 46) rfl ?_); refine fr_rowv H (N := 46) rfl rfl (fun K hK => by go_simp; exact hK.out) ?_; intro x46 w46 H1; replace H := H1; clear H1)
          | ((with_reducible refine gate_dst (N := 48) rfl ?_); refine fr_get H rfl rfl rfl (by repeat (first | exact At.head | apply At.tail)) Tryz.underlying26 rfl (by simp only [List.getElem?_toArray, List.getElem?_cons_succ, List.getElem?_cons_zero]; rfl) ?_)
          | ((with_reducible refine gate_store (t := 26) (p := 50) rfl ?_); refine fr_set H (u := .slice _ _ _) rfl rfl rfl rfl rfl (by repeat (first | exact At.head | apply At.tail)) (Nat.le_of_ble_eq_true rfl) (by simp only [Value.cells, List.take_succ_cons, List.take_zero, List.drop_succ_cons, List.drop_zero, List.cons_append, List.nil_append, List.size_toArray, List.length_cons, List.length_nil, Nat.reduceAdd, List.append_nil, List.drop_nil, List.take_nil, List.toList_toArray]; rfl) (by kernel_rfl) (by simp [Value.cells, Value.oneCell']) ?_; intro w50_ H1; replace H := H1; clear H1)
          | ((with_reducible refine gate_dst (N := 53) rfl ?_); refine fr_sub H (n := 2) rfl rfl rfl (by repeat (first | exact At.head | apply At.tail)) Tryz.underlying28 rfl (by kernel_rfl) (by simp only [List.toList_toArray, List.drop_succ_cons, List.drop_zero, List.take_succ_cons, List.take_zero]; rfl) (by rfl) ?_)
          | fail)
        cases r
        all_goals
          go_wp2_with (first
            | (go_at_call 25; (with_reducible refine (HR.out _).mono ?_); rintro e w' ⟨rfl, hb⟩; have H1 := H.call hb; clear hb; replace H := H1; clear H1)
            | ((with_reducible refine gate_dst (N := 53) rfl ?_); refine fr_sub H (n := 2) rfl rfl rfl (by repeat (first | exact At.head | apply At.tail)) Tryz.underlying28 rfl (by kernel_rfl) (by simp only [List.toList_toArray, List.drop_succ_cons, List.drop_zero, List.take_succ_cons, List.take_zero]; rfl) (by rfl) ?_)
            | ((with_reducible refine gate_dst (N := 57) rfl ?_); refine fr_get H rfl rfl rfl (by repeat (first | exact At.head | apply At.tail)) Tryz.underlying3 rfl (by simp only [List.getElem?_toArray, List.getElem?_cons_succ, List.getElem?_cons_zero]; rfl) ?_)
            | ((with_reducible refine gate_store (t := 28) (p := 59) rfl ?_); refine fr_set H (u := .agg (List.toArray _)) rfl rfl rfl rfl rfl (by repeat (first | exact At.head | apply At.tail)) (Nat.le_of_ble_eq_true rfl) (by simp only [Value.cells, List.take_succ_cons, List.take_zero, List.drop_succ_cons, List.drop_zero, List.cons_append, List.nil_append, List.size_toArray, List.length_cons, List.length_nil, Nat.reduceAdd, List.append_nil, List.drop_nil, List.take_nil, List.toList_toArray]; rfl) (by kernel_rfl) (by simp [Value.cells, Value.oneCell']) ?_; intro w59_ H1; replace H := H1; clear H1)
            | ((with_reducible refine gate_dst (N := 60) rfl ?_); refine fr_sub H (n := 11) rfl rfl rfl (by repeat (first | exact At.head | apply At.tail)) Tryz.underlying30 rfl (by kernel_rfl) (by simp only [List.toList_toArray, List.drop_succ_cons, List.drop_zero, List.take_succ_cons, List.take_zero]; rfl) (by rfl) ?_)
            | ((with_reducible refine gate_store (t := 30) (p := 4) rfl ?_); refine fr_put H rfl rfl rfl rfl rfl (by repeat (first | exact At.head | apply At.tail)) (by rfl) (by kernel_rfl) (by simp [Value.oneCell']) ?_; intro w4_ H1; replace H := H1; clear H1)
            | fail)
          refine bodyPost_ret (results_c rfl _ _ g4 30 _ (0, 0) _ rfl (H.of (by repeat (first | exact At.head | apply At.tail))) Tryz.underlying30 rfl (by kernel_rfl)) rfl ?_
          exact ⟨some ⟨x46, 0, none⟩, 0, by rw [HN.out]; try rfl, by rw [HN.out, HT0.out]; exact own_empty (H.of (by repeat (first | exact At.head | apply At.tail))) (by have := (H.blk (x46, _) (by repeat (first | exact List.mem_cons_self | apply List.mem_cons_of_mem))).2; exact this.resolve_right id), H.below⟩
      | some ad =>
        go_wp2_with (first
          | (go_at_call 24; (with_reducible refine (HGD.out _ H.now).mono ?_); rintro e w' ⟨rfl, hb⟩; have H1 := H.call hb; clear hb; replace H := H1; clear H1)
          | (at_builtin; have hx46 := own_empty (W := _) (b := w.heap.size) (sz := 2) (H.of At.head) ((H.blk _ List.mem_cons_self).2.resolve_right id); refine wpList_append_own_at _ rfl _ _ 26 rfl w.heap.size 58 i0 _ 2 16 Tryz.underlying26 hi0 hz0 hz1 hz2 rfl (by decide) (.slice (some ⟨x46, 0, none⟩) 0 0) 0 [] rfl hx46 ad n c (flL tab) rfl HFL.out (cellsL H.now) (flL_one tab) (by have := HNB.out; unfold maxLen; omega) (by have := HNB.out; omega) H.chg.size ?_; intro v2 w2 hown hgrow hnil hat; obtain ⟨g9, cap, rfl, hcap, hob⟩ := own_shape2 hown (fun e => by have := (hnil.1 e).1; cases this); rw [hob] at hat; rw [Nat.zero_add, List.nil_append] at hown; have H1 := Fr.appendedRow H.drop (fun k h => h) HR0.out hx46 (hne_rows H.drop hx46 (by intro q hq; simp only [List.mem_cons, List.not_mem_nil, or_false] at hq; rcases hq with rfl | rfl | rfl <;> exact ⟨_, _, rfl, by decide⟩)) hgrow hown hat; clear hown hgrow hnil hat hob hcap hx46 H; have H := H1; clear H1)
          | ((with_reducible refine gate_dst (N := 46) rfl ?_); refine fr_rowv H (N := 46) rfl rfl (fun K hK => by go_simp; exact hK.out) ?_; intro x46 w46 H1; replace H := H1; clear H1)
          | ((with_reducible refine gate_dst (N := 48) rfl ?_); refine fr_get H rfl rfl rfl (by repeat (first | exact At.head | apply At.tail)) Tryz.underlying26 rfl (by simp only [List.getElem?_toArray, List.getElem?_cons_succ, List.getElem?_cons_zero]; rfl) ?_)
          | ((with_reducible refine gate_store (t := 26) (p := 50) rfl ?_); refine fr_set H (u := .slice _ _ _) rfl rfl rfl rfl rfl (by repeat (first | exact At.head | apply At.tail)) (Nat.le_of_ble_eq_true rfl) (by simp only [Value.cells, List.take_succ_cons, List.take_zero, List.drop_succ_cons, List.drop_zero, List.cons_append, List.nil_append, List.size_toArray, List.length_cons, List.length_nil, Nat.reduceAdd, List.append_nil, List.drop_nil, List.take_nil, List.toList_toArray]; rfl) (by kernel_rfl) (by simp [Value.cells, Value.oneCell']) ?_; intro w50_ H1; replace H := H1; clear H1)
          | ((with_reducible refine gate_dst (N := 53) rfl ?_); refine fr_sub H (n := 2) rfl rfl rfl (by repeat (first | exact At.head | apply At.tail)) Tryz.underlying28 rfl (by kernel_rfl) (by simp only [List.toList_toArray, List.drop_succ_cons, List.drop_zero, List.take_succ_cons, List.take_zero]; rfl) (by rfl) ?_)
          | fail)
        cases r
        all_goals
          go_wp2_with (first
            | (go_at_call 25; (with_reducible refine (HR.out _).mono ?_); rintro e w' ⟨rfl, hb⟩; have H1 := H.call hb; clear hb; replace H := H1; clear H1)
            | ((with_reducible refine gate_dst (N := 53) rfl ?_); refine fr_sub H (n := 2) rfl rfl rfl (by repeat (first | exact At.head | apply At.tail)) Tryz.underlying28 rfl (by kernel_rfl) (by simp only [List.toList_toArray, List.drop_succ_cons, List.drop_zero, List.take_succ_cons, List.take_zero]; rfl) (by rfl) ?_)
            | ((with_reducible refine gate_dst (N := 57) rfl ?_); refine fr_get H rfl rfl rfl (by repeat (first | exact At.head | apply At.tail)) Tryz.underlying3 rfl (by simp only [List.getElem?_toArray, List.getElem?_cons_succ, List.getElem?_cons_zero]; rfl) ?_)
            | ((with_reducible refine gate_store (t := 28) (p := 59) rfl ?_); refine fr_set H (u := .agg (List.toArray _)) rfl rfl rfl rfl rfl (by repeat (first | exact At.head | apply At.tail)) (Nat.le_of_ble_eq_true rfl) (by simp only [Value.cells, List.take_succ_cons, List.take_zero, List.drop_succ_cons, List.drop_zero, List.cons_append, List.nil_append, List.size_toArray, List.length_cons, List.length_nil, Nat.reduceAdd, List.append_nil, List.drop_nil, List.take_nil, List.toList_toArray]; rfl) (by kernel_rfl) (by simp [Value.cells, Value.oneCell']) ?_; intro w59_ H1; replace H := H1; clear H1)
            | ((with_reducible refine gate_dst (N := 60) rfl ?_); refine fr_sub H (n := 11) rfl rfl rfl (by repeat (first | exact At.head | apply At.tail)) Tryz.underlying30 rfl (by kernel_rfl) (by simp only [List.toList_toArray, List.drop_succ_cons, List.drop_zero, List.take_succ_cons, List.take_zero]; rfl) (by rfl) ?_)
            | ((with_reducible refine gate_store (t := 30) (p := 4) rfl ?_); refine fr_put H rfl rfl rfl rfl rfl (by repeat (first | exact At.head | apply At.tail)) (by rfl) (by kernel_rfl) (by simp [Value.oneCell']) ?_; intro w4_ H1; replace H := H1; clear H1)
            | fail)
          refine bodyPost_ret (results_c rfl _ _ g4 30 _ (0, 0) _ rfl (H.of (by repeat (first | exact At.head | apply At.tail))) Tryz.underlying30 rfl (by kernel_rfl)) rfl ?_
          exact ⟨some ⟨g9, 0, none⟩, cap, by rw [HN.out]; try rfl, by rw [HN.out]; exact H.now.2, H.below⟩
end Go.Proofs.YtbmfgcekglgliaaGreat.G

namespace Go.Proofs.YtbmfgcekglgliaaGreat.G
open Go.RowKit Go.Proofs.YtbmfgcekglgliaaGreatW.PrintWords Go.Proofs.YtbmfgcekglgliaaGreatW.PrintLast Go.Proofs.YtbmfgcekglgliaaGreatW.PrintMore Go.Proofs.YtbmfgcekglgliaaGreatPl Go.Proofs.YtbmfgcekglgliaaGreatEm Go.Proofs.YtbmfgcekglgliaaGreatKr Go.Proofs.YtbmfgcekglgliaaGreatRz Go.Proofs.YtbmfgcekglgliaaGreat.X
set_option linter.unusedVariables false
set_option linter.unusedSimpArgs false
set_option maxRecDepth 100000 in
set_option maxHeartbeats 16000000 in
theorem RStep_calls (p : Par) (s : St) (A : Option Addr) (c : Nat) (ticks : Int) (nx : St) (A2 : Option Addr) (c2 : Nat) (w : World) (hr : Kd.C k58 w A2 nx.tab.length nx.tab) (hl : nx.tab.length ≤ 4096) :
    Calls Tryz.prog 42 #[.agg #[.int .i64 p.N, .int .i64 p.F, .int .i64 p.D, .int .i64 p.Be, .int .i64 p.Rho, .int .i64 p.De, .int .i64 p.Ji, .int .i64 p.Eps, .int .i64 p.Mu, .int .i64 p.Ho, .int .i64 p.Pu, .int .i64 p.Se], .agg #[.int .i64 s.lo, .int .i64 s.hi, .int .i64 s.time, .bool s.set, .int .i64 s.held, .int .i64 s.hops, .bool s.good, .slice A s.tab.length c, .int .i64 s.st, .int .i64 s.sn, .int .i64 s.life], .int .i64 ticks, .agg #[.int .i64 nx.lo, .int .i64 nx.hi, .int .i64 nx.time, .bool nx.set, .int .i64 nx.held, .int .i64 nx.hops, .bool nx.good, .slice A2 nx.tab.length c2, .int .i64 nx.st, .int .i64 nx.sn, .int .i64 nx.life]] w fun e w' => ∃ A' c', e = .returned (.agg #[.int .i64 (stepS p s ticks nx).lo, .int .i64 (stepS p s ticks nx).hi, .int .i64 (stepS p s ticks nx).time, .bool (stepS p s ticks nx).set, .int .i64 (stepS p s ticks nx).held, .int .i64 (stepS p s ticks nx).hops, .bool (stepS p s ticks nx).good, .slice A' (stepS p s ticks nx).tab.length c', .int .i64 (stepS p s ticks nx).st, .int .i64 (stepS p s ticks nx).sn, .int .i64 (stepS p s ticks nx).life]) ∧ w'.ownsRow w.heap.size 58 2 (.slice A' (stepS p s ticks nx).tab.length c') (stepS p s ticks nx).tab.length (flL (stepS p s ticks nx).tab) ∧ Below w.heap.size w w' := by
  have H := Fr.start0 (M := fun _ => False) (A := fun _ => False) (w := w) (p := fun W => Kd.C k58 W A2 nx.tab.length nx.tab) (fun _ h => h.elim) (Go.Proofs.YtbmfgcekglgliaaGreatEv.Tr.of_C hr k58_heap)
  have HSN := Lib.hid (fun W h => RSane_calls p nx A2 c2 W h hl)
  have KJ := Lib.hid (fun W => RJumps_calls p s nx ticks A A2 c c2 W)
  obtain ⟨u, hu⟩ : ∃ u, stepS p s ticks nx = u := ⟨_, rfl⟩
  obtain ⟨j, hj⟩ : ∃ j, jumpP p s ticks nx = j := ⟨_, rfl⟩
  obtain ⟨tm, htm⟩ : ∃ t, stepTime p s ticks nx = t := ⟨_, rfl⟩
  obtain ⟨z, hz⟩ : ∃ z, saneS p.D nx = z := ⟨_, rfl⟩
  obtain ⟨mo, hmo⟩ : ∃ m, sadd [z.hi, farP p z.held] = m := ⟨_, rfl⟩
  obtain ⟨r, hr2⟩ : ∃ r, rightP s.st s.sn = r := ⟨_, rfl⟩
  obtain ⟨k, hk⟩ : ∃ k, decide (mo < s.st) = k := ⟨_, rfl⟩
  obtain ⟨lt, hlt⟩ : ∃ k, decide (tm < s.time) = k := ⟨_, rfl⟩
  have HTM : Hid (tm = if (j || !s.set) = true then clip (midP nx.lo nx.hi) else slewQ p s.time ticks (midP nx.lo nx.hi)) := Lib.hid (by rw [← htm]; unfold stepTime slewP slewQ; rw [hj])
  have HME : Hid (stepMend p s ticks nx = if (r && !k) = true then (s.st, s.sn, false) else (clip tm, 0, true)) := Lib.hid (by
    unfold stepMend mendP
    rw [hz, hmo, htm, hr2]
    have : decide (s.st ≤ mo) = !k := by rw [← hk, Bool.eq_iff_iff]; simp [Int.not_lt]
    rw [this])
  have HU : Hid (u = ⟨z.lo, z.hi, tm, true, z.held, z.hops, z.good, z.tab, (tickP (stepMend p s ticks nx).1 (stepMend p s ticks nx).2.1 tm).1, (tickP (stepMend p s ticks nx).1 (stepMend p s ticks nx).2.1 tm).2, if ((stepMend p s ticks nx).2.2 || lt) = true then bound (sadd [bound s.life 0 2305843009213693952, 1]) 0 2305843009213693952 else bound s.life 0 2305843009213693952⟩) := Lib.hid (by
    rw [← hu]
    unfold stepS stepTick
    rw [hz, htm, hlt])
  have KR : Hid (∀ W, Calls Tryz.prog 25 #[.agg #[.int .i64 s.st, .int .i64 s.sn]] W fun e w' => e = .returned (.bool r) ∧ Below W.heap.size W w') := Lib.hid (fun W => hr2 ▸ RRight_calls _ _ W)
  have KMo : Hid (∀ W A c tim se st sn li, Calls Tryz.prog 81 #[.agg #[.int .i64 p.N, .int .i64 p.F, .int .i64 p.D, .int .i64 p.Be, .int .i64 p.Rho, .int .i64 p.De, .int .i64 p.Ji, .int .i64 p.Eps, .int .i64 p.Mu, .int .i64 p.Ho, .int .i64 p.Pu, .int .i64 p.Se], .agg #[.int .i64 z.lo, .int .i64 z.hi, .int .i64 tim, .bool se, .int .i64 z.held, .int .i64 z.hops, .bool z.good, .slice A z.tab.length c, .int .i64 st, .int .i64 sn, .int .i64 li]] W fun e w' => e = .returned (.int .i64 mo) ∧ Below W.heap.size W w') := Lib.hid (fun W A c tim se st sn li => by
    have := RMostT_calls p ⟨z.lo, z.hi, tim, se, z.held, z.hops, z.good, z.tab, st, sn, li⟩ A c W
    dsimp only at this
    rw [hmo] at this
    exact this)
  rw [hj] at KJ
  rw [hz] at HSN
  rw [hu]
  obtain ⟨zlo, zhi, ztime, zset, zheld, zhops, zgood, ztab, zst, zsn, zlife⟩ := z
  obtain ⟨ulo, uhi, utime, uset, uheld, uhops, ugood, utab, ust, usn, ulife⟩ := u
  obtain ⟨lo, hi, time, set, held, hops, good, tab, st, sn, life⟩ := s
  obtain ⟨nlo, nhi, ntime, nset, nheld, nhops, ngood, ntab, nst, nsn, nlife⟩ := nx
  dsimp only at H HSN KJ HTM HU KR KMo hk hlt ⊢
  obtain ⟨n, hn⟩ : ∃ n, tab.length = n := ⟨_, rfl⟩
  obtain ⟨nn, hnn⟩ : ∃ n, ntab.length = n := ⟨_, rfl⟩
  obtain ⟨nz, hnz⟩ : ∃ n, ztab.length = n := ⟨_, rfl⟩
  have HNZ := Lib.hid hnz
  obtain ⟨m, hm⟩ : ∃ m, midP nlo nhi = m := ⟨_, rfl⟩
  have KM : Hid (∀ W, Calls Tryz.prog 78 #[.agg #[.int .i64 nlo, .int .i64 nhi]] W fun e w' => e = .returned (.int .i64 m) ∧ Below W.heap.size W w') := Lib.hid (fun W => hm ▸ RMid_calls nlo nhi W)
  obtain ⟨bl, hbl⟩ : ∃ b, bound life 0 2305843009213693952 = b := ⟨_, rfl⟩
  have KB : Hid (∀ W, Calls Tryz.prog 22 #[.int .i64 life, .int .i64 0, .int .i64 2305843009213693952] W fun e w' => e = .returned (.int .i64 bl) ∧ w' = W) := Lib.hid (fun W => hbl ▸ RBound_calls _ _ _ W)
  rw [hm] at HTM
  rw [hbl] at HU
  rw [hn, hnn] at KJ
  rw [hnn, hnz] at HSN
  rw [hnn] at H
  rw [hnz] at KMo
  rw [hn, hnn]
  clear hr hl hn hnn hnz hm hbl hu hj htm hz hmo hr2
  go_enter Tryz.func42, Tryz.ntmps42
  cases j
  all_goals
    go_upto_if 32 with (first
      | (go_at_call 78; (with_reducible refine (KM.out _).mono ?_); rintro e w' ⟨rfl, hb⟩; have H1 := H.call hb; clear hb; replace H := H1; clear H1)
      | (go_at_call 79; (with_reducible refine (RSlew_calls p _ _ _ _).mono ?_); rintro e w' ⟨rfl, hb⟩; have H1 := H.call hb; clear hb; replace H := H1; clear H1)
      | (go_at_call 80; (with_reducible refine (KJ.out _).mono ?_); rintro e w' ⟨rfl, hb⟩; have H1 := H.call hb; clear hb; replace H := H1; clear H1)
      | ((with_reducible refine gate_dst (N := 4) rfl ?_); refine fr_box H rfl rfl rfl ?_; intro g4 w4 H1; replace H := H1; clear H1)
      | ((with_reducible refine gate_dst (N := 5) rfl ?_); refine fr_box H rfl rfl rfl ?_; intro g5 w5 H1; replace H := H1; clear H1)
      | ((with_reducible refine gate_dst (N := 7) rfl ?_); refine fr_box H rfl rfl rfl ?_; intro g7 w7 H1; replace H := H1; clear H1)
      | ((with_reducible refine gate_dst (N := 8) rfl ?_); refine fr_new H (N := 8) rfl rfl (cs := #[.int .i64 0, .int .i64 0, .int .i64 0, .bool false, .int .i64 0, .int .i64 0, .bool false, .slice none 0 0, .int .i64 0, .int .i64 0, .int .i64 0]) (t := 30) ?hr ?_; (case hr => first | (go_simp; done) | (go_simp; rfl)); intro g8 w8 H1; replace H := H1; clear H1)
      | ((with_reducible refine gate_dst (N := 15) rfl ?_); refine fr_sub H (n := 2) rfl rfl rfl (by repeat (first | exact At.head | apply At.tail)) Tryz.underlying25 rfl (by kernel_rfl) (by simp only [List.toList_toArray, List.drop_succ_cons, List.drop_zero, List.take_succ_cons, List.take_zero]; rfl) (by rfl) ?_)
      | ((with_reducible refine gate_dst (N := 17) rfl ?_); refine fr_sub H (n := 12) rfl rfl rfl (by repeat (first | exact At.head | apply At.tail)) Tryz.underlying23 rfl (by kernel_rfl) (by simp only [List.toList_toArray, List.drop_succ_cons, List.drop_zero, List.take_succ_cons, List.take_zero]; rfl) (by rfl) ?_)
      | ((with_reducible refine gate_dst (N := 19) rfl ?_); refine fr_get H rfl rfl rfl (by repeat (first | exact At.head | apply At.tail)) Tryz.underlying3 rfl (by simp only [List.getElem?_toArray, List.getElem?_cons_succ, List.getElem?_cons_zero]; rfl) ?_)
      | ((with_reducible refine gate_dst (N := 23) rfl ?_); refine fr_sub H (n := 12) rfl rfl rfl (by repeat (first | exact At.head | apply At.tail)) Tryz.underlying23 rfl (by kernel_rfl) (by simp only [List.toList_toArray, List.drop_succ_cons, List.drop_zero, List.take_succ_cons, List.take_zero]; rfl) (by rfl) ?_)
      | ((with_reducible refine gate_dst (N := 24) rfl ?_); refine fr_sub H (n := 11) rfl rfl rfl (by repeat (first | exact At.head | apply At.tail)) Tryz.underlying30 rfl (by kernel_rfl) (by simp only [List.toList_toArray, List.drop_succ_cons, List.drop_zero, List.take_succ_cons, List.take_zero]; rfl) (by rfl) ?_)
      | ((with_reducible refine gate_dst (N := 26) rfl ?_); refine fr_sub H (n := 11) rfl rfl rfl (by repeat (first | exact At.head | apply At.tail)) Tryz.underlying30 rfl (by kernel_rfl) (by simp only [List.toList_toArray, List.drop_succ_cons, List.drop_zero, List.take_succ_cons, List.take_zero]; rfl) (by rfl) ?_)
      | ((with_reducible refine gate_dst (N := 30) rfl ?_); (try (refine gate_guard (by rfl) ?_; dsimp only)); refine fr_get H rfl rfl rfl (by repeat (first | exact At.head | apply At.tail)) Tryz.underlying4 rfl (by simp only [List.getElem?_toArray, List.getElem?_cons_succ, List.getElem?_cons_zero]; rfl) ?_)
      | fail)
    go_cut [10] (fun v10 wc => v10 = .int .i64 tm ∧ Fr (fun _ => False) (fun _ => False) w wc [(g8, .cells #[.int .i64 0, .int .i64 0, .int .i64 0, .bool false, .int .i64 0, .int .i64 0, .bool false, .slice none 0 0, .int .i64 0, .int .i64 0, .int .i64 0] 30 (0, 0)), (g7, .cells #[.int .i64 nlo, .int .i64 nhi, .int .i64 ntime, .bool nset, .int .i64 nheld, .int .i64 nhops, .bool ngood, .slice A2 nn c2, .int .i64 nst, .int .i64 nsn, .int .i64 nlife] 30 (0, 0)), (g5, .cells #[.int .i64 lo, .int .i64 hi, .int .i64 time, .bool set, .int .i64 held, .int .i64 hops, .bool good, .slice A n c, .int .i64 st, .int .i64 sn, .int .i64 life] 30 (0, 0)), (g4, .cells #[.int .i64 p.N, .int .i64 p.F, .int .i64 p.D, .int .i64 p.Be, .int .i64 p.Rho, .int .i64 p.De, .int .i64 p.Ji, .int .i64 p.Eps, .int .i64 p.Mu, .int .i64 p.Ho, .int .i64 p.Pu, .int .i64 p.Se] 23 (0, 0))] (fun W => Kd.C k58 W A2 nn ntab))
    case first =>
      cases set
      all_goals
        go_wp2_with (first
          | (go_at_call 21; (with_reducible refine (RClip_calls _ _).mono ?_); rintro e w' ⟨rfl, rfl⟩)
          | fail)
        go_meet
        case rel => exact ⟨by rw [HTM.out]; simp, H⟩
    case rest =>
      obtain ⟨rfl, H1⟩ := hcut
      clear H HTM KJ KM
      have H := H1
      clear H1
      go_upto_region 10 with (first
        | (go_at_call 22; (with_reducible refine (KB.out _).mono ?_); rintro e w' ⟨rfl, rfl⟩)
        | (go_at_call 8; (with_reducible refine (HSN.out _ H.now).mono ?_); rintro e w' ⟨A1, c1, rfl, ho, hb⟩; have HT := Tr_row H.avs H.chg.size ho; have H2 := H.call2 hb HT; clear hb ho HT H; have H := H2; clear H2)
        | ((with_reducible refine gate_dst (N := 35) rfl ?_); refine fr_sub H (n := 12) rfl rfl rfl (by repeat (first | exact At.head | apply At.tail)) Tryz.underlying23 rfl (by kernel_rfl) (by simp only [List.toList_toArray, List.drop_succ_cons, List.drop_zero, List.take_succ_cons, List.take_zero]; rfl) (by rfl) ?_)
        | ((with_reducible refine gate_dst (N := 36) rfl ?_); refine fr_sub H (n := 11) rfl rfl rfl (by repeat (first | exact At.head | apply At.tail)) Tryz.underlying30 rfl (by kernel_rfl) (by simp only [List.toList_toArray, List.drop_succ_cons, List.drop_zero, List.take_succ_cons, List.take_zero]; rfl) (by rfl) ?_)
        | ((with_reducible refine gate_dst (N := 11) rfl ?_); refine fr_new H (N := 11) rfl rfl (cs := #[.int .i64 0, .int .i64 0, .int .i64 0, .bool false, .int .i64 0, .int .i64 0, .bool false, .slice none 0 0, .int .i64 0, .int .i64 0, .int .i64 0]) (t := 30) ?hr ?_; (case hr => first | (go_simp; done) | (go_simp; rfl)); intro g11 w11 H1; replace H := H1; clear H1)
        | ((with_reducible refine gate_store (t := 30) (p := 11) rfl ?_); refine fr_put H rfl rfl rfl rfl rfl (by repeat (first | exact At.head | apply At.tail)) (by rfl) (by kernel_rfl) (by simp [Value.oneCell']) ?_; intro w11_ H1; replace H := H1; clear H1)
        | ((with_reducible refine gate_store (t := 3) (p := 39) rfl ?_); refine fr_set H (u := .int .i64 _) rfl rfl rfl rfl rfl (by repeat (first | exact At.head | apply At.tail)) (Nat.le_of_ble_eq_true rfl) (by simp only [Value.cells, List.take_succ_cons, List.take_zero, List.drop_succ_cons, List.drop_zero, List.cons_append, List.nil_append, List.size_toArray, List.length_cons, List.length_nil, Nat.reduceAdd, List.append_nil, List.drop_nil, List.take_nil, List.toList_toArray]; rfl) (by kernel_rfl) (by simp [Value.cells, Value.oneCell']) ?_; intro w39_ H1; replace H := H1; clear H1)
        | ((with_reducible refine gate_store (t := 4) (p := 40) rfl ?_); refine fr_set H (u := .bool _) rfl rfl rfl rfl rfl (by repeat (first | exact At.head | apply At.tail)) (Nat.le_of_ble_eq_true rfl) (by simp only [Value.cells, List.take_succ_cons, List.take_zero, List.drop_succ_cons, List.drop_zero, List.cons_append, List.nil_append, List.size_toArray, List.length_cons, List.length_nil, Nat.reduceAdd, List.append_nil, List.drop_nil, List.take_nil, List.toList_toArray]; rfl) (by kernel_rfl) (by simp [Value.cells, Value.oneCell']) ?_; intro w40_ H1; replace H := H1; clear H1)
        | ((with_reducible refine gate_dst (N := 42) rfl ?_); refine fr_get H rfl rfl rfl (by repeat (first | exact At.head | apply At.tail)) Tryz.underlying3 rfl (by simp only [List.getElem?_toArray, List.getElem?_cons_succ, List.getElem?_cons_zero]; rfl) ?_)
        | ((with_reducible refine gate_store (t := 3) (p := 44) rfl ?_); refine fr_set H (u := .int .i64 _) rfl rfl rfl rfl rfl (by repeat (first | exact At.head | apply At.tail)) (Nat.le_of_ble_eq_true rfl) (by simp only [Value.cells, List.take_succ_cons, List.take_zero, List.drop_succ_cons, List.drop_zero, List.cons_append, List.nil_append, List.size_toArray, List.length_cons, List.length_nil, Nat.reduceAdd, List.append_nil, List.drop_nil, List.take_nil, List.toList_toArray]; rfl) (by kernel_rfl) (by simp [Value.cells, Value.oneCell']) ?_; intro w44_ H1; replace H := H1; clear H1)
        | ((with_reducible refine gate_dst (N := 46) rfl ?_); refine fr_sub H (n := 2) rfl rfl rfl (by repeat (first | exact At.head | apply At.tail)) Tryz.underlying28 rfl (by kernel_rfl) (by simp only [List.toList_toArray, List.drop_succ_cons, List.drop_zero, List.take_succ_cons, List.take_zero]; rfl) (by rfl) ?_)
        | ((with_reducible refine gate_dst (N := 12) rfl ?_); refine fr_new H (N := 12) rfl rfl (cs := #[.int .i64 0, .int .i64 0]) (t := 28) ?hr ?_; (case hr => first | (go_simp; done) | (go_simp; rfl)); intro g12 w12 H1; replace H := H1; clear H1)
        | ((with_reducible refine gate_store (t := 28) (p := 12) rfl ?_); refine fr_put H rfl rfl rfl rfl rfl (by repeat (first | exact At.head | apply At.tail)) (by rfl) (by kernel_rfl) (by simp [Value.oneCell']) ?_; intro w12_ H1; replace H := H1; clear H1)
        | fail)
      have KMost := Lib.hid (fun W => KMo.out W A1 c1 tm true zst zsn bl)
      cases r
      case false =>
        have HEE : Hid (stepMend p ⟨lo, hi, time, set, held, hops, good, tab, st, sn, life⟩ ticks ⟨nlo, nhi, ntime, nset, nheld, nhops, ngood, ntab, nst, nsn, nlife⟩ = (clip tm, 0, true)) := Lib.hid (by rw [HME.out]; simp)
        have HU2 : Hid (ulo = zlo ∧ uhi = zhi ∧ utime = tm ∧ uset = true ∧ uheld = zheld ∧ uhops = zhops ∧ ugood = zgood ∧ utab = ztab ∧ ust = (tickP (clip tm) 0 tm).1 ∧ usn = (tickP (clip tm) 0 tm).2 ∧ ulife = if (true || lt) = true then bound (sadd [bl, 1]) 0 2305843009213693952 else bl) := Lib.hid (by
          have := HU.out
          rw [HEE.out] at this
          injection this with q1 q2 q3 q4 q5 q6 q7 q8 q9 q10 q11
          exact ⟨q1, q2, q3, q4, q5, q6, q7, q8, q9, q10, q11⟩)
        clear HU HEE HME
        refine ko_region0 H (by kernel_rfl) (by as_aux_lemma => kernel_rfl) (fun HR => ?_)
        repeat (first
          | ((with_reducible refine kg_call (f := 25) rfl ?_); refine ko_call 25 _ rfl (by rfl) Tryz.func25 (by kernel_rfl) rfl (by kernel_rfl) (by simp only [List.map_toArray, List.map_cons, List.map_nil]; rfl) (fun W hC hd => KR.out W) ?_; (try simp only [Act.put, lsA, lsZ, lsS, Nat.reduceAdd]))
          | ((with_reducible refine kg_call (f := 81) rfl ?_); refine ko_call 81 _ rfl (by rfl) Tryz.func81 (by kernel_rfl) rfl (by kernel_rfl) (by simp only [List.map_toArray, List.map_cons, List.map_nil]; rfl) (fun W hC hd => KMost.out W) ?_; (try simp only [Act.put, lsA, lsZ, lsS, Nat.reduceAdd]))
          | ((with_reducible refine kg_load (ty := 28) rfl ?_); refine ko_sub HR (n := 2) rfl (by rfl) (by rfl) (by repeat (first | exact At.head | apply At.tail)) Tryz.underlying28 rfl (by kernel_rfl) (by simp only [List.toList_toArray, List.drop_succ_cons, List.drop_zero, List.take_succ_cons, List.take_zero]; rfl) (by rfl) ?_; (try simp only [Act.put, lsA, lsZ, lsS, Nat.reduceAdd]))
          | ((with_reducible refine kg_load (ty := 3) rfl ?_); refine ko_get HR rfl (by rfl) (by rfl) (by repeat (first | exact At.head | apply At.tail)) Tryz.underlying3 rfl (by simp only [List.getElem?_toArray, List.getElem?_cons_succ, List.getElem?_cons_zero]; rfl) ?_; (try simp only [Act.put, lsA, lsZ, lsS, Nat.reduceAdd]))
          | ((with_reducible refine kg_load (ty := 23) rfl ?_); refine ko_sub HR (n := 12) rfl (by rfl) (by rfl) (by repeat (first | exact At.head | apply At.tail)) Tryz.underlying23 rfl (by kernel_rfl) (by simp only [List.toList_toArray, List.drop_succ_cons, List.drop_zero, List.take_succ_cons, List.take_zero]; rfl) (by rfl) ?_; (try simp only [Act.put, lsA, lsZ, lsS, Nat.reduceAdd]))
          | ((with_reducible refine kg_load (ty := 30) rfl ?_); refine ko_sub HR (n := 11) rfl (by rfl) (by rfl) (by repeat (first | exact At.head | apply At.tail)) Tryz.underlying30 rfl (by kernel_rfl) (by simp only [List.toList_toArray, List.drop_succ_cons, List.drop_zero, List.take_succ_cons, List.take_zero]; rfl) (by rfl) ?_; (try simp only [Act.put, lsA, lsZ, lsS, Nat.reduceAdd]))
          | (refine ko_pure rfl (by rfl) (fun W K hK => by go_simp; exact hK.out) ?_; (try simp only [Act.put, lsA, lsZ, lsS, Nat.reduceAdd]))
          | (refine ko_off (by rfl) ?_; (try simp only [Act.put, lsA, lsZ, lsS, Nat.reduceAdd])))
        refine ko_end ?_
        intro w1 H1
        clear HR H
        have H := H1
        clear H1
        (try simp only [List.map_cons, List.map_nil, cv, List.cons_append, List.nil_append] at H)
        cases lt
        all_goals
          have HU3 := HU2.out
          simp only [Bool.false_or, Bool.true_or, Bool.or_true, Bool.or_false, if_true, Bool.false_eq_true, if_false] at HU3
          have HU4 := Lib.hid HU3
          clear HU3 HU2
          go_wp2_with (first
            | (go_at_call 21; (with_reducible refine (RClip_calls _ _).mono ?_); rintro e w' ⟨rfl, rfl⟩)
            | (go_at_call 22; (with_reducible refine (RBound_calls _ _ _ _).mono ?_); rintro e w' ⟨rfl, rfl⟩)
            | (go_at_call 82; (with_reducible refine (RTick_calls _ _ _ _).mono ?_); rintro e w' ⟨rfl, hb⟩; have H1 := H.call hb; clear hb; replace H := H1; clear H1)
            | (go_at_call 23; (with_reducible refine (RAdd2 (H.of At.head)).mono ?_); rintro e w' ⟨rfl, hb⟩; have H1 := H.call hb; clear hb; replace H := H1; clear H1)
            | ((with_reducible refine gate_store (t := 28) (p := 12) rfl ?_); refine fr_put H rfl rfl rfl rfl rfl (by repeat (first | exact At.head | apply At.tail)) (by rfl) (by kernel_rfl) (by simp [Value.oneCell']) ?_; intro w12_ H1; replace H := H1; clear H1)
            | ((with_reducible refine gate_dst (N := 62) rfl ?_); refine fr_sub H (n := 2) rfl rfl rfl (by repeat (first | exact At.head | apply At.tail)) Tryz.underlying28 rfl (by kernel_rfl) (by simp only [List.toList_toArray, List.drop_succ_cons, List.drop_zero, List.take_succ_cons, List.take_zero]; rfl) (by rfl) ?_)
            | ((with_reducible refine gate_store (t := 28) (p := 65) rfl ?_); refine fr_set H (u := .agg (List.toArray _)) rfl rfl rfl rfl rfl (by repeat (first | exact At.head | apply At.tail)) (Nat.le_of_ble_eq_true rfl) (by simp only [Value.cells, List.take_succ_cons, List.take_zero, List.drop_succ_cons, List.drop_zero, List.cons_append, List.nil_append, List.size_toArray, List.length_cons, List.length_nil, Nat.reduceAdd, List.append_nil, List.drop_nil, List.take_nil, List.toList_toArray]; rfl) (by kernel_rfl) (by simp [Value.cells, Value.oneCell']) ?_; intro w65_ H1; replace H := H1; clear H1)
            | ((with_reducible refine gate_dst (N := 70) rfl ?_); (try (refine gate_guard (by rfl) ?_; dsimp only)); refine fr_get H rfl rfl rfl (by repeat (first | exact At.head | apply At.tail)) Tryz.underlying3 rfl (by simp only [List.getElem?_toArray, List.getElem?_cons_succ, List.getElem?_cons_zero]; rfl) ?_)
            | ((with_reducible refine gate_dst (N := 74) rfl ?_); refine fr_get H rfl rfl rfl (by repeat (first | exact At.head | apply At.tail)) Tryz.underlying3 rfl (by simp only [List.getElem?_toArray, List.getElem?_cons_succ, List.getElem?_cons_zero]; rfl) ?_)
            | ((with_reducible refine gate_dst (N := 75) rfl ?_); refine fr_rowv H (N := 75) rfl rfl (fun K hK => by go_simp; exact hK.out) ?_; intro x75 w75 H1; replace H := H1; clear H1)
            | ((with_reducible refine gate_store (t := 3) (p := 78) rfl ?_); refine fr_set H (u := .int .i64 _) rfl rfl rfl rfl rfl (by repeat (first | exact At.head | apply At.tail)) (Nat.le_of_ble_eq_true rfl) (by simp only [Value.cells, List.take_succ_cons, List.take_zero, List.drop_succ_cons, List.drop_zero, List.cons_append, List.nil_append, List.size_toArray, List.length_cons, List.length_nil, Nat.reduceAdd, List.append_nil, List.drop_nil, List.take_nil, List.toList_toArray]; rfl) (by kernel_rfl) (by simp [Value.cells, Value.oneCell']) ?_; intro w78_ H1; replace H := H1; clear H1)
            | ((with_reducible refine gate_dst (N := 79) rfl ?_); refine fr_sub H (n := 11) rfl rfl rfl (by repeat (first | exact At.head | apply At.tail)) Tryz.underlying30 rfl (by kernel_rfl) (by simp only [List.toList_toArray, List.drop_succ_cons, List.drop_zero, List.take_succ_cons, List.take_zero]; rfl) (by rfl) ?_)
            | ((with_reducible refine gate_store (t := 30) (p := 8) rfl ?_); refine fr_put H rfl rfl rfl rfl rfl (by repeat (first | exact At.head | apply At.tail)) (by rfl) (by kernel_rfl) (by simp [Value.oneCell']) ?_; intro w8_ H1; replace H := H1; clear H1)
            | fail)
          refine bodyPost_ret (results_c rfl _ _ g8 30 _ (0, 0) _ rfl (H.of (by repeat (first | exact At.head | apply At.tail))) Tryz.underlying30 rfl (by kernel_rfl)) rfl ?_
          obtain ⟨e1, e2, e3, e4, e5, e6, e7, e8, e9, e10, e11⟩ := HU4.out
          rw [e1, e2, e3, e4, e5, e6, e7, e8, e9, e10, e11]
          exact ⟨A1, c1, by rw [HNZ.out], by rw [HNZ.out]; exact H.now.2, H.below⟩
      case true =>
        cases k
        case false =>
          have HEE : Hid (stepMend p ⟨lo, hi, time, set, held, hops, good, tab, st, sn, life⟩ ticks ⟨nlo, nhi, ntime, nset, nheld, nhops, ngood, ntab, nst, nsn, nlife⟩ = (st, sn, false)) := Lib.hid (by rw [HME.out]; simp)
          have HU2 : Hid (ulo = zlo ∧ uhi = zhi ∧ utime = tm ∧ uset = true ∧ uheld = zheld ∧ uhops = zhops ∧ ugood = zgood ∧ utab = ztab ∧ ust = (tickP st sn tm).1 ∧ usn = (tickP st sn tm).2 ∧ ulife = if (false || lt) = true then bound (sadd [bl, 1]) 0 2305843009213693952 else bl) := Lib.hid (by
            have := HU.out
            rw [HEE.out] at this
            injection this with q1 q2 q3 q4 q5 q6 q7 q8 q9 q10 q11
            exact ⟨q1, q2, q3, q4, q5, q6, q7, q8, q9, q10, q11⟩)
          clear HU HEE HME
          refine ko_region0 H (by kernel_rfl) (by as_aux_lemma => kernel_rfl) (fun HR => ?_)
          repeat (first
            | ((with_reducible refine kg_call (f := 25) rfl ?_); refine ko_call 25 _ rfl (by rfl) Tryz.func25 (by kernel_rfl) rfl (by kernel_rfl) (by simp only [List.map_toArray, List.map_cons, List.map_nil]; rfl) (fun W hC hd => KR.out W) ?_; (try simp only [Act.put, lsA, lsZ, lsS, Nat.reduceAdd]))
            | ((with_reducible refine kg_call (f := 81) rfl ?_); refine ko_call 81 _ rfl (by rfl) Tryz.func81 (by kernel_rfl) rfl (by kernel_rfl) (by simp only [List.map_toArray, List.map_cons, List.map_nil]; rfl) (fun W hC hd => KMost.out W) ?_; (try simp only [Act.put, lsA, lsZ, lsS, Nat.reduceAdd]))
            | ((with_reducible refine kg_load (ty := 28) rfl ?_); refine ko_sub HR (n := 2) rfl (by rfl) (by rfl) (by repeat (first | exact At.head | apply At.tail)) Tryz.underlying28 rfl (by kernel_rfl) (by simp only [List.toList_toArray, List.drop_succ_cons, List.drop_zero, List.take_succ_cons, List.take_zero]; rfl) (by rfl) ?_; (try simp only [Act.put, lsA, lsZ, lsS, Nat.reduceAdd]))
            | ((with_reducible refine kg_load (ty := 3) rfl ?_); refine ko_get HR rfl (by rfl) (by rfl) (by repeat (first | exact At.head | apply At.tail)) Tryz.underlying3 rfl (by simp only [List.getElem?_toArray, List.getElem?_cons_succ, List.getElem?_cons_zero]; rfl) ?_; (try simp only [Act.put, lsA, lsZ, lsS, Nat.reduceAdd]))
            | ((with_reducible refine kg_load (ty := 23) rfl ?_); refine ko_sub HR (n := 12) rfl (by rfl) (by rfl) (by repeat (first | exact At.head | apply At.tail)) Tryz.underlying23 rfl (by kernel_rfl) (by simp only [List.toList_toArray, List.drop_succ_cons, List.drop_zero, List.take_succ_cons, List.take_zero]; rfl) (by rfl) ?_; (try simp only [Act.put, lsA, lsZ, lsS, Nat.reduceAdd]))
            | ((with_reducible refine kg_load (ty := 30) rfl ?_); refine ko_sub HR (n := 11) rfl (by rfl) (by rfl) (by repeat (first | exact At.head | apply At.tail)) Tryz.underlying30 rfl (by kernel_rfl) (by simp only [List.toList_toArray, List.drop_succ_cons, List.drop_zero, List.take_succ_cons, List.take_zero]; rfl) (by rfl) ?_; (try simp only [Act.put, lsA, lsZ, lsS, Nat.reduceAdd]))
            | (refine ko_pure rfl (by rfl) (fun W K hK => by go_simp; exact hK.out) ?_; (try simp only [Act.put, lsA, lsZ, lsS, Nat.reduceAdd]))
            | (refine ko_off (by rfl) ?_; (try simp only [Act.put, lsA, lsZ, lsS, Nat.reduceAdd])))
          refine ko_end ?_
          intro w1 H1
          clear HR H
          have H := H1
          clear H1
          (try simp only [List.map_cons, List.map_nil, cv, List.cons_append, List.nil_append] at H)
          cases lt
          all_goals
            have HU3 := HU2.out
            simp only [Bool.false_or, Bool.true_or, Bool.or_true, Bool.or_false, if_true, Bool.false_eq_true, if_false] at HU3
            have HU4 := Lib.hid HU3
            clear HU3 HU2
            go_wp2_with (first
              | (go_at_call 21; (with_reducible refine (RClip_calls _ _).mono ?_); rintro e w' ⟨rfl, rfl⟩)
              | (go_at_call 22; (with_reducible refine (RBound_calls _ _ _ _).mono ?_); rintro e w' ⟨rfl, rfl⟩)
              | (go_at_call 82; (with_reducible refine (RTick_calls _ _ _ _).mono ?_); rintro e w' ⟨rfl, hb⟩; have H1 := H.call hb; clear hb; replace H := H1; clear H1)
              | (go_at_call 23; (with_reducible refine (RAdd2 (H.of At.head)).mono ?_); rintro e w' ⟨rfl, hb⟩; have H1 := H.call hb; clear hb; replace H := H1; clear H1)
              | ((with_reducible refine gate_store (t := 28) (p := 12) rfl ?_); refine fr_put H rfl rfl rfl rfl rfl (by repeat (first | exact At.head | apply At.tail)) (by rfl) (by kernel_rfl) (by simp [Value.oneCell']) ?_; intro w12_ H1; replace H := H1; clear H1)
              | ((with_reducible refine gate_dst (N := 62) rfl ?_); refine fr_sub H (n := 2) rfl rfl rfl (by repeat (first | exact At.head | apply At.tail)) Tryz.underlying28 rfl (by kernel_rfl) (by simp only [List.toList_toArray, List.drop_succ_cons, List.drop_zero, List.take_succ_cons, List.take_zero]; rfl) (by rfl) ?_)
              | ((with_reducible refine gate_store (t := 28) (p := 65) rfl ?_); refine fr_set H (u := .agg (List.toArray _)) rfl rfl rfl rfl rfl (by repeat (first | exact At.head | apply At.tail)) (Nat.le_of_ble_eq_true rfl) (by simp only [Value.cells, List.take_succ_cons, List.take_zero, List.drop_succ_cons, List.drop_zero, List.cons_append, List.nil_append, List.size_toArray, List.length_cons, List.length_nil, Nat.reduceAdd, List.append_nil, List.drop_nil, List.take_nil, List.toList_toArray]; rfl) (by kernel_rfl) (by simp [Value.cells, Value.oneCell']) ?_; intro w65_ H1; replace H := H1; clear H1)
              | ((with_reducible refine gate_dst (N := 70) rfl ?_); (try (refine gate_guard (by rfl) ?_; dsimp only)); refine fr_get H rfl rfl rfl (by repeat (first | exact At.head | apply At.tail)) Tryz.underlying3 rfl (by simp only [List.getElem?_toArray, List.getElem?_cons_succ, List.getElem?_cons_zero]; rfl) ?_)
              | ((with_reducible refine gate_dst (N := 74) rfl ?_); refine fr_get H rfl rfl rfl (by repeat (first | exact At.head | apply At.tail)) Tryz.underlying3 rfl (by simp only [List.getElem?_toArray, List.getElem?_cons_succ, List.getElem?_cons_zero]; rfl) ?_)
              | ((with_reducible refine gate_dst (N := 75) rfl ?_); refine fr_rowv H (N := 75) rfl rfl (fun K hK => by go_simp; exact hK.out) ?_; intro x75 w75 H1; replace H := H1; clear H1)
              | ((with_reducible refine gate_store (t := 3) (p := 78) rfl ?_); refine fr_set H (u := .int .i64 _) rfl rfl rfl rfl rfl (by repeat (first | exact At.head | apply At.tail)) (Nat.le_of_ble_eq_true rfl) (by simp only [Value.cells, List.take_succ_cons, List.take_zero, List.drop_succ_cons, List.drop_zero, List.cons_append, List.nil_append, List.size_toArray, List.length_cons, List.length_nil, Nat.reduceAdd, List.append_nil, List.drop_nil, List.take_nil, List.toList_toArray]; rfl) (by kernel_rfl) (by simp [Value.cells, Value.oneCell']) ?_; intro w78_ H1; replace H := H1; clear H1)
              | ((with_reducible refine gate_dst (N := 79) rfl ?_); refine fr_sub H (n := 11) rfl rfl rfl (by repeat (first | exact At.head | apply At.tail)) Tryz.underlying30 rfl (by kernel_rfl) (by simp only [List.toList_toArray, List.drop_succ_cons, List.drop_zero, List.take_succ_cons, List.take_zero]; rfl) (by rfl) ?_)
              | ((with_reducible refine gate_store (t := 30) (p := 8) rfl ?_); refine fr_put H rfl rfl rfl rfl rfl (by repeat (first | exact At.head | apply At.tail)) (by rfl) (by kernel_rfl) (by simp [Value.oneCell']) ?_; intro w8_ H1; replace H := H1; clear H1)
              | fail)
            refine bodyPost_ret (results_c rfl _ _ g8 30 _ (0, 0) _ rfl (H.of (by repeat (first | exact At.head | apply At.tail))) Tryz.underlying30 rfl (by kernel_rfl)) rfl ?_
            obtain ⟨e1, e2, e3, e4, e5, e6, e7, e8, e9, e10, e11⟩ := HU4.out
            rw [e1, e2, e3, e4, e5, e6, e7, e8, e9, e10, e11]
            exact ⟨A1, c1, by rw [HNZ.out], by rw [HNZ.out]; exact H.now.2, H.below⟩
        case true =>
          have HEE : Hid (stepMend p ⟨lo, hi, time, set, held, hops, good, tab, st, sn, life⟩ ticks ⟨nlo, nhi, ntime, nset, nheld, nhops, ngood, ntab, nst, nsn, nlife⟩ = (clip tm, 0, true)) := Lib.hid (by rw [HME.out]; simp)
          have HU2 : Hid (ulo = zlo ∧ uhi = zhi ∧ utime = tm ∧ uset = true ∧ uheld = zheld ∧ uhops = zhops ∧ ugood = zgood ∧ utab = ztab ∧ ust = (tickP (clip tm) 0 tm).1 ∧ usn = (tickP (clip tm) 0 tm).2 ∧ ulife = if (true || lt) = true then bound (sadd [bl, 1]) 0 2305843009213693952 else bl) := Lib.hid (by
            have := HU.out
            rw [HEE.out] at this
            injection this with q1 q2 q3 q4 q5 q6 q7 q8 q9 q10 q11
            exact ⟨q1, q2, q3, q4, q5, q6, q7, q8, q9, q10, q11⟩)
          clear HU HEE HME
          refine ko_region0 H (by kernel_rfl) (by as_aux_lemma => kernel_rfl) (fun HR => ?_)
          repeat (first
            | ((with_reducible refine kg_call (f := 25) rfl ?_); refine ko_call 25 _ rfl (by rfl) Tryz.func25 (by kernel_rfl) rfl (by kernel_rfl) (by simp only [List.map_toArray, List.map_cons, List.map_nil]; rfl) (fun W hC hd => KR.out W) ?_; (try simp only [Act.put, lsA, lsZ, lsS, Nat.reduceAdd]))
            | ((with_reducible refine kg_call (f := 81) rfl ?_); refine ko_call 81 _ rfl (by rfl) Tryz.func81 (by kernel_rfl) rfl (by kernel_rfl) (by simp only [List.map_toArray, List.map_cons, List.map_nil]; rfl) (fun W hC hd => KMost.out W) ?_; (try simp only [Act.put, lsA, lsZ, lsS, Nat.reduceAdd]))
            | ((with_reducible refine kg_load (ty := 28) rfl ?_); refine ko_sub HR (n := 2) rfl (by rfl) (by rfl) (by repeat (first | exact At.head | apply At.tail)) Tryz.underlying28 rfl (by kernel_rfl) (by simp only [List.toList_toArray, List.drop_succ_cons, List.drop_zero, List.take_succ_cons, List.take_zero]; rfl) (by rfl) ?_; (try simp only [Act.put, lsA, lsZ, lsS, Nat.reduceAdd]))
            | ((with_reducible refine kg_load (ty := 3) rfl ?_); refine ko_get HR rfl (by rfl) (by rfl) (by repeat (first | exact At.head | apply At.tail)) Tryz.underlying3 rfl (by simp only [List.getElem?_toArray, List.getElem?_cons_succ, List.getElem?_cons_zero]; rfl) ?_; (try simp only [Act.put, lsA, lsZ, lsS, Nat.reduceAdd]))
            | ((with_reducible refine kg_load (ty := 23) rfl ?_); refine ko_sub HR (n := 12) rfl (by rfl) (by rfl) (by repeat (first | exact At.head | apply At.tail)) Tryz.underlying23 rfl (by kernel_rfl) (by simp only [List.toList_toArray, List.drop_succ_cons, List.drop_zero, List.take_succ_cons, List.take_zero]; rfl) (by rfl) ?_; (try simp only [Act.put, lsA, lsZ, lsS, Nat.reduceAdd]))
            | ((with_reducible refine kg_load (ty := 30) rfl ?_); refine ko_sub HR (n := 11) rfl (by rfl) (by rfl) (by repeat (first | exact At.head | apply At.tail)) Tryz.underlying30 rfl (by kernel_rfl) (by simp only [List.toList_toArray, List.drop_succ_cons, List.drop_zero, List.take_succ_cons, List.take_zero]; rfl) (by rfl) ?_; (try simp only [Act.put, lsA, lsZ, lsS, Nat.reduceAdd]))
            | (refine ko_pure rfl (by rfl) (fun W K hK => by go_simp; exact hK.out) ?_; (try simp only [Act.put, lsA, lsZ, lsS, Nat.reduceAdd]))
            | (refine ko_off (by rfl) ?_; (try simp only [Act.put, lsA, lsZ, lsS, Nat.reduceAdd])))
          refine ko_end ?_
          intro w1 H1
          clear HR H
          have H := H1
          clear H1
          (try simp only [List.map_cons, List.map_nil, cv, List.cons_append, List.nil_append] at H)
          cases lt
          all_goals
            have HU3 := HU2.out
            simp only [Bool.false_or, Bool.true_or, Bool.or_true, Bool.or_false, if_true, Bool.false_eq_true, if_false] at HU3
            have HU4 := Lib.hid HU3
            clear HU3 HU2
            go_wp2_with (first
              | (go_at_call 21; (with_reducible refine (RClip_calls _ _).mono ?_); rintro e w' ⟨rfl, rfl⟩)
              | (go_at_call 22; (with_reducible refine (RBound_calls _ _ _ _).mono ?_); rintro e w' ⟨rfl, rfl⟩)
              | (go_at_call 82; (with_reducible refine (RTick_calls _ _ _ _).mono ?_); rintro e w' ⟨rfl, hb⟩; have H1 := H.call hb; clear hb; replace H := H1; clear H1)
              | (go_at_call 23; (with_reducible refine (RAdd2 (H.of At.head)).mono ?_); rintro e w' ⟨rfl, hb⟩; have H1 := H.call hb; clear hb; replace H := H1; clear H1)
              | ((with_reducible refine gate_store (t := 28) (p := 12) rfl ?_); refine fr_put H rfl rfl rfl rfl rfl (by repeat (first | exact At.head | apply At.tail)) (by rfl) (by kernel_rfl) (by simp [Value.oneCell']) ?_; intro w12_ H1; replace H := H1; clear H1)
              | ((with_reducible refine gate_dst (N := 62) rfl ?_); refine fr_sub H (n := 2) rfl rfl rfl (by repeat (first | exact At.head | apply At.tail)) Tryz.underlying28 rfl (by kernel_rfl) (by simp only [List.toList_toArray, List.drop_succ_cons, List.drop_zero, List.take_succ_cons, List.take_zero]; rfl) (by rfl) ?_)
              | ((with_reducible refine gate_store (t := 28) (p := 65) rfl ?_); refine fr_set H (u := .agg (List.toArray _)) rfl rfl rfl rfl rfl (by repeat (first | exact At.head | apply At.tail)) (Nat.le_of_ble_eq_true rfl) (by simp only [Value.cells, List.take_succ_cons, List.take_zero, List.drop_succ_cons, List.drop_zero, List.cons_append, List.nil_append, List.size_toArray, List.length_cons, List.length_nil, Nat.reduceAdd, List.append_nil, List.drop_nil, List.take_nil, List.toList_toArray]; rfl) (by kernel_rfl) (by simp [Value.cells, Value.oneCell']) ?_; intro w65_ H1; replace H := H1; clear H1)
              | ((with_reducible refine gate_dst (N := 70) rfl ?_); (try (refine gate_guard (by rfl) ?_; dsimp only)); refine fr_get H rfl rfl rfl (by repeat (first | exact At.head | apply At.tail)) Tryz.underlying3 rfl (by simp only [List.getElem?_toArray, List.getElem?_cons_succ, List.getElem?_cons_zero]; rfl) ?_)
              | ((with_reducible refine gate_dst (N := 74) rfl ?_); refine fr_get H rfl rfl rfl (by repeat (first | exact At.head | apply At.tail)) Tryz.underlying3 rfl (by simp only [List.getElem?_toArray, List.getElem?_cons_succ, List.getElem?_cons_zero]; rfl) ?_)
              | ((with_reducible refine gate_dst (N := 75) rfl ?_); refine fr_rowv H (N := 75) rfl rfl (fun K hK => by go_simp; exact hK.out) ?_; intro x75 w75 H1; replace H := H1; clear H1)
              | ((with_reducible refine gate_store (t := 3) (p := 78) rfl ?_); refine fr_set H (u := .int .i64 _) rfl rfl rfl rfl rfl (by repeat (first | exact At.head | apply At.tail)) (Nat.le_of_ble_eq_true rfl) (by simp only [Value.cells, List.take_succ_cons, List.take_zero, List.drop_succ_cons, List.drop_zero, List.cons_append, List.nil_append, List.size_toArray, List.length_cons, List.length_nil, Nat.reduceAdd, List.append_nil, List.drop_nil, List.take_nil, List.toList_toArray]; rfl) (by kernel_rfl) (by simp [Value.cells, Value.oneCell']) ?_; intro w78_ H1; replace H := H1; clear H1)
              | ((with_reducible refine gate_dst (N := 79) rfl ?_); refine fr_sub H (n := 11) rfl rfl rfl (by repeat (first | exact At.head | apply At.tail)) Tryz.underlying30 rfl (by kernel_rfl) (by simp only [List.toList_toArray, List.drop_succ_cons, List.drop_zero, List.take_succ_cons, List.take_zero]; rfl) (by rfl) ?_)
              | ((with_reducible refine gate_store (t := 30) (p := 8) rfl ?_); refine fr_put H rfl rfl rfl rfl rfl (by repeat (first | exact At.head | apply At.tail)) (by rfl) (by kernel_rfl) (by simp [Value.oneCell']) ?_; intro w8_ H1; replace H := H1; clear H1)
              | fail)
            refine bodyPost_ret (results_c rfl _ _ g8 30 _ (0, 0) _ rfl (H.of (by repeat (first | exact At.head | apply At.tail))) Tryz.underlying30 rfl (by kernel_rfl)) rfl ?_
            obtain ⟨e1, e2, e3, e4, e5, e6, e7, e8, e9, e10, e11⟩ := HU4.out
            rw [e1, e2, e3, e4, e5, e6, e7, e8, e9, e10, e11]
            exact ⟨A1, c1, by rw [HNZ.out], by rw [HNZ.out]; exact H.now.2, H.below⟩
end Go.Proofs.YtbmfgcekglgliaaGreat.G

namespace Go.Proofs.YtbmfgcekglgliaaGreat.G
open Go.RowKit Go.Proofs.YtbmfgcekglgliaaGreatW.PrintWords Go.Proofs.YtbmfgcekglgliaaGreatW.PrintLast Go.Proofs.YtbmfgcekglgliaaGreatW.PrintMore Go.Proofs.YtbmfgcekglgliaaGreatPl Go.Proofs.YtbmfgcekglgliaaGreatEm Go.Proofs.YtbmfgcekglgliaaGreatKr Go.Proofs.YtbmfgcekglgliaaGreatRz Go.Proofs.YtbmfgcekglgliaaGreat.X
set_option linter.unusedVariables false
set_option linter.unusedSimpArgs false
def isF (k : Nat) (h : Hd) : Bool := (h.kind == 1) && (h.frm == (k : Int))
def pickT (me : Int) (l : List Hd) (k : Nat) : Option Hd := if ((k : Int) != me) = true then l.find? (isF k) else none
def toldR (me : Int) (l : List Hd) : Nat → List Hd
  | 0 => []
  | k + 1 => toldR me l k ++ (pickT me l k).toList
def upT (N : Int) : Nat := if N < 16 then N.toNat else 16
theorem toldR_len (me : Int) (l : List Hd) : ∀ k, (toldR me l k).length ≤ k
  | 0 => Nat.le_refl _
  | k + 1 => by
    have := toldR_len me l k
    show (toldR me l k ++ (pickT me l k).toList).length ≤ k + 1
    rw [List.length_append]
    have : (pickT me l k).toList.length ≤ 1 := by cases pickT me l k <;> simp
    omega
theorem toldR_some {me : Int} {l : List Hd} {k : Nat} {x : Hd} (h : pickT me l k = some x) : toldR me l (k + 1) = toldR me l k ++ [x] := by
  show toldR me l k ++ (pickT me l k).toList = _
  rw [h]; rfl
theorem toldR_none {me : Int} {l : List Hd} {k : Nat} (h : pickT me l k = none) : toldR me l (k + 1) = toldR me l k := by
  show toldR me l k ++ (pickT me l k).toList = _
  rw [h]; simp
theorem pick_hit {me : Int} {l : List Hd} {k j : Nat} (hj : j < l.length) (h1 : ((k : Int) != me) = true) (h2 : isF k l[j] = true) (h3 : ∀ x ∈ l.take j, isF k x = false) : pickT me l k = some l[j] := by
  unfold pickT
  rw [if_pos h1]
  have e : l = l.take j ++ l[j] :: l.drop (j + 1) := by rw [← List.drop_eq_getElem_cons hj, List.take_append_drop]
  have e2 : List.find? (isF k) (l.take j) = none := List.find?_eq_none.2 (fun x hx => by rw [h3 x hx]; simp)
  have : List.find? (isF k) (l.take j ++ l[j] :: l.drop (j + 1)) = some l[j] := by
    rw [List.find?_append, e2, Option.none_or, List.find?_cons_of_pos h2]
  rw [← e] at this
  exact this
theorem pick_miss {me : Int} {l : List Hd} {k : Nat} (h : ∀ x ∈ l, (((k : Int) != me) && isF k x) = false) : pickT me l k = none := by
  unfold pickT
  cases h1 : ((k : Int) != me)
  · rfl
  · rw [if_pos rfl]
    refine List.find?_eq_none.2 (fun x hx => ?_)
    have := h x hx
    rw [h1] at this
    simpa using this
theorem mt_cases (a b c f : Bool) (hf : (a && (b && c)) = f) : (f = false ∧ a = false) ∨ (f = false ∧ a = true ∧ b = false) ∨ (f = false ∧ a = true ∧ b = true ∧ c = false) ∨ (f = true ∧ a = true ∧ b = true ∧ c = true) := by
  cases a <;> cases b <;> cases c <;> simp_all
set_option maxRecDepth 100000 in
set_option maxHeartbeats 16000000 in
theorem RTold_calls (p : Par) (me : Int) (A : Option Addr) (c : Nat) (l : List Hd) (w : World) (hr : Tr (fun _ => False) w (fun W => RowH W A l)) (hl : l.length ≤ 4096) :
    Calls Tryz.prog 11 #[.agg #[.int .i64 p.N, .int .i64 p.F, .int .i64 p.D, .int .i64 p.Be, .int .i64 p.Rho, .int .i64 p.De, .int .i64 p.Ji, .int .i64 p.Eps, .int .i64 p.Mu, .int .i64 p.Ho, .int .i64 p.Pu, .int .i64 p.Se], .int .i64 me, .slice A l.length c] w fun e w' => ∃ A' c', e = .returned (.slice A' (toldR me l (upT p.N)).length c') ∧ w'.ownsRow w.heap.size 49 15 (.slice A' (toldR me l (upT p.N)).length c') (toldR me l (upT p.N)).length (flH (toldR me l (upT p.N))) ∧ Below w.heap.size w w' := by
  have H := Fr.start0 (M := fun _ => False) (A := fun _ => False) (w := w) (p := fun W => RowH W A l) (fun _ h => h.elim) hr
  have HR0 := Lib.hid hr
  obtain ⟨n, hn⟩ : ∃ n, l.length = n := ⟨_, rfl⟩
  have HN := Lib.hid hn
  rw [hn] at hl ⊢
  obtain ⟨i0, hi0, hz0, hz1, hz2⟩ := info_parts infoH
  obtain ⟨m, hm⟩ : ∃ m, upT p.N = m := ⟨_, rfl⟩
  have HM : Hid ((∀ k : Nat, k < m → (k : Int) < p.N ∧ k < 16) ∧ (¬ (m : Int) < p.N ∨ m = 16) ∧ m ≤ 16) := Lib.hid (by
    rw [← hm]
    unfold upT
    split
    · exact ⟨fun k hk => by omega, by omega, by omega⟩
    · exact ⟨fun k hk => by omega, .inr rfl, by omega⟩)
  rw [hm]
  clear hr hn hm
  go_enter Tryz.func11, Tryz.ntmps11
  go_wp2_with (first
    | ((with_reducible refine gate_dst (N := 3) rfl ?_); refine fr_box H rfl rfl rfl ?_; intro g3 w3 H1; replace H := H1; clear H1)
    | fail)
  go_loopw [7, 8] (fun v7 v8 wr => ∃ (k : Nat) (Ao : Option Addr) (on co : Nat), k ≤ m ∧ v8 = .int .i64 k ∧ v7 = .slice Ao on co ∧ on ≤ co ∧ on ≤ k ∧ Hid ((toldR me l k).length = on) ∧ Fr (fun _ => False) (fun _ => False) w wr [(g3, .cells #[.int .i64 p.N, .int .i64 p.F, .int .i64 p.D, .int .i64 p.Be, .int .i64 p.Rho, .int .i64 p.De, .int .i64 p.Ji, .int .i64 p.Eps, .int .i64 p.Mu, .int .i64 p.Ho, .int .i64 p.Pu, .int .i64 p.Se] 23 (0, 0))] (fun W => RowH W A l ∧ W.ownsRow w.heap.size 49 15 (.slice Ao on co) on (flH (toldR me l k)))) (fun _ v8 _ => m - (intOf v8).toNat)
  case atStart => exact ⟨0, none, 0, 0, by omega, rfl, rfl, by omega, by omega, Lib.hid rfl, H.imp (fun W h => ⟨h, World.ownsRow_nil _ _ _ _⟩)⟩
  case round =>
    clear H
    obtain ⟨k, Ao, on, co, hk, rfl, rfl, hco, hon, HON, H⟩ := hrel
    by_cases hlt : k < m
    · have hk1 := (HM.out.1 k hlt).2
      have d1 : decide ((k : Int) < p.N) = true := decide_eq_true (HM.out.1 k hlt).1
      have d2 : decide ((k : Int) < 16) = true := decide_eq_true (by omega)
      have hs1 : -9223372036854775808 ≤ (k : Int) + 1 := by omega
      have hs2 : (k : Int) + 1 ≤ 9223372036854775807 := by omega
      go_wp2_with (first
        | ((with_reducible refine gate_dst (N := 13) rfl ?_); refine fr_get H rfl rfl rfl (by repeat (first | exact At.head | apply At.tail)) Tryz.underlying3 rfl (by simp only [List.getElem?_toArray, List.getElem?_cons_succ, List.getElem?_cons_zero]; rfl) ?_)
        | fail)
      go_loopw [7, 23] (fun v7 v23 ws => ∃ j : Nat, j ≤ n ∧ v23 = .int .i64 j ∧ v7 = .slice Ao on co ∧ Hid (∀ x ∈ l.take j, (((k : Int) != me) && isF k x) = false) ∧ Fr (fun _ => False) (fun _ => False) w ws [(g3, .cells #[.int .i64 p.N, .int .i64 p.F, .int .i64 p.D, .int .i64 p.Be, .int .i64 p.Rho, .int .i64 p.De, .int .i64 p.Ji, .int .i64 p.Eps, .int .i64 p.Mu, .int .i64 p.Ho, .int .i64 p.Pu, .int .i64 p.Se] 23 (0, 0))] (fun W => RowH W A l ∧ W.ownsRow w.heap.size 49 15 (.slice Ao on co) on (flH (toldR me l k)))) (fun _ v23 _ => n - (intOf v23).toNat)
      case atStart => exact ⟨0, by omega, rfl, rfl, Lib.hid (fun x hx => by simp at hx), H⟩
      case round =>
        clear H
        obtain ⟨j, hj, rfl, rfl, HQ, H⟩ := hrel
        by_cases hjt : j < n
        · have hjl : j < l.length := by rw [HN.out]; exact hjt
          have hj1 : (j : Int) < (n : Int) := by omega
          have hj2 : -9223372036854775808 ≤ (j : Int) + 1 := by omega
          have hj3 : (j : Int) + 1 ≤ 9223372036854775807 := by omega
          obtain ⟨ad, e, hx⟩ := H.now.1 j hjl
          cases e
          obtain ⟨x, hxe⟩ : ∃ x, l[j] = x := ⟨_, rfl⟩
          rw [hxe] at hx
          have HX : Hid (l.take (j + 1) = l.take j ++ [x]) := Lib.hid (by rw [List.take_succ_eq_append_getElem hjl, hxe])
          obtain ⟨f, hf⟩ : ∃ f, (((k : Int) != me) && isF k x) = f := ⟨_, rfl⟩
          have HF := Lib.hid hf
          have hcs := mt_cases ((k : Int) != me) (x.kind == 1) (x.frm == (k : Int)) f hf
          have HHIT : Hid (f = true → toldR me l (k + 1) = toldR me l k ++ [x]) := Lib.hid (fun h => by
            rw [h] at hf
            obtain ⟨h1, h2⟩ := (Bool.and_eq_true _ _).mp hf
            refine toldR_some ?_
            rw [← hxe] at h2 ⊢
            refine pick_hit hjl h1 h2 (fun y hy => ?_)
            have := HQ.out y hy
            rw [h1, Bool.true_and] at this
            exact this)
          obtain ⟨kind, frm, lo, hi, held, hops, good, ref, slo, shi, pulse, st, sn, Ax, nx, cx, age⟩ := x
          have HC : Hid (∀ i u, [Value.int .i64 kind, .int .i64 frm, .int .i64 lo, .int .i64 hi, .int .i64 held, .int .i64 hops, .bool good, .bool ref, .int .i64 slo, .int .i64 shi, .int .i64 pulse, .int .i64 st, .int .i64 sn, .slice Ax nx cx, .int .i64 age][i]? = some u → wr.cell? ((ad.add (j * 15)).add i) = some u) := Lib.hid hx
          dsimp only at hcs
          have HOO := Lib.hid (And.intro hco hon)
          clear hx hxe hf hco
          rcases hcs with ⟨rfl, q1⟩ | ⟨rfl, q1, q2⟩ | ⟨rfl, q1, q2, q3⟩ | ⟨rfl, q1, q2, q3⟩
          all_goals
            go_wp2_with (first
              | ((with_reducible refine gate_dst (N := 26) rfl ?_); refine load_cells rfl rfl (ad := ad.add (j * 15)) (cs := [.int .i64 kind, .int .i64 frm, .int .i64 lo, .int .i64 hi, .int .i64 held, .int .i64 hops, .bool good, .bool ref, .int .i64 slo, .int .i64 shi, .int .i64 pulse, .int .i64 st, .int .i64 sn, .slice Ax nx cx, .int .i64 age]) ?hx Tryz.underlying49 rfl (by kernel_rfl) HC.out ?_; (case hx => first | rfl | (go_simp; done) | (go_simp; rfl)))
              | (at_builtin; refine wpList_append_own_at _ rfl _ _ 42 rfl w.heap.size 49 i0 _ 15 128 Tryz.underlying42 hi0 hz0 hz1 hz2 rfl (by decide) (.slice Ao on co) on (flH (toldR me l k)) rfl H.now.2 ⟨x45, 0, none⟩ 1 1 [.int .i64 kind, .int .i64 frm, .int .i64 lo, .int .i64 hi, .int .i64 held, .int .i64 hops, .bool good, .bool ref, .int .i64 slo, .int .i64 shi, .int .i64 pulse, .int .i64 st, .int .i64 sn, .slice Ax nx cx, .int .i64 age] rfl rfl ?hn ?h1 (by unfold maxLen; omega) (by omega) H.chg.size ?_; (case hn => exact new_cells (H.of At.head)); (case h1 => exact encH_one ⟨kind, frm, lo, hi, held, hops, good, ref, slo, shi, pulse, st, sn, Ax, nx, cx, age⟩); intro v2 w2 hown hgrow hnil hat; obtain ⟨g4, cap, rfl, hcap, hob⟩ := own_shape2 hown (fun e => by have := (hnil.1 e).2; cases this); rw [hob] at hat; have H1 := Fr.appendedRow H.drop.drop (fun k h => h) HR0.out H.now.2 (hne_rows H.drop.drop H.now.2 (by intro q hq; simp only [List.mem_cons, List.not_mem_nil, or_false] at hq; rcases hq with rfl <;> exact ⟨_, _, rfl, by decide⟩)) hgrow hown hat; have HC4 := Lib.hid hcap; clear hown hgrow hnil hat hob hcap H; have H := H1; clear H1)
              | ((with_reducible refine gate_dst (N := 26) rfl ?_); refine fr_sub H (n := 15) rfl rfl rfl (by repeat (first | exact At.head | apply At.tail)) Tryz.underlying49 rfl (by kernel_rfl) (by simp only [List.toList_toArray, List.drop_succ_cons, List.drop_zero, List.take_succ_cons, List.take_zero]; rfl) (by rfl) ?_)
              | ((with_reducible refine gate_dst (N := 10) rfl ?_); refine fr_new H (N := 10) rfl rfl (cs := #[.int .i64 0, .int .i64 0, .int .i64 0, .int .i64 0, .int .i64 0, .int .i64 0, .bool false, .bool false, .int .i64 0, .int .i64 0, .int .i64 0, .int .i64 0, .int .i64 0, .slice none 0 0, .int .i64 0]) (t := 49) ?hr ?_; (case hr => first | (go_simp; done) | (go_simp; rfl)); intro g10 w10 H1; replace H := H1; clear H1)
              | ((with_reducible refine gate_store (t := 49) (p := 10) rfl ?_); refine fr_put H rfl rfl rfl rfl rfl (by repeat (first | exact At.head | apply At.tail)) (by rfl) (by kernel_rfl) (by simp [Value.oneCell']) ?_; intro w10_ H1; replace H := H1; clear H1)
              | ((with_reducible refine gate_dst (N := 33) rfl ?_); (try (refine gate_guard (by rfl) ?_; dsimp only)); refine fr_get H rfl rfl rfl (by repeat (first | exact At.head | apply At.tail)) Tryz.underlying3 rfl (by simp only [List.getElem?_toArray, List.getElem?_cons_succ, List.getElem?_cons_zero]; rfl) ?_)
              | ((with_reducible refine gate_dst (N := 39) rfl ?_); (try (refine gate_guard (by rfl) ?_; dsimp only)); refine fr_get H rfl rfl rfl (by repeat (first | exact At.head | apply At.tail)) Tryz.underlying3 rfl (by simp only [List.getElem?_toArray, List.getElem?_cons_succ, List.getElem?_cons_zero]; rfl) ?_)
              | ((with_reducible refine gate_dst (N := 44) rfl ?_); refine fr_sub H (n := 15) rfl rfl rfl (by repeat (first | exact At.head | apply At.tail)) Tryz.underlying49 rfl (by kernel_rfl) (by simp only [List.toList_toArray, List.drop_succ_cons, List.drop_zero, List.take_succ_cons, List.take_zero]; rfl) (by rfl) ?_)
              | ((with_reducible refine gate_dst (N := 45) rfl ?_); refine fr_rowv H (N := 45) rfl rfl (fun K hK => by go_simp; exact hK.out) ?_; intro x45 w45 H1; replace H := H1; clear H1)
              | fail)
          iterate 3
            focus
              go_roundw
              case rel => exact ⟨j + 1, by omega, by simp, rfl, Lib.hid (fun y hy => by
                rw [HX.out] at hy
                rcases List.mem_append.1 hy with hy | hy
                · exact HQ.out y hy
                · rw [List.mem_singleton.1 hy]; exact HF.out), H.drop⟩
              case measure => simp [intOf]; omega
          go_roundw
          case rel => exact ⟨k + 1, some ⟨g4, 0, none⟩, on + 1, cap, by omega, by simp, rfl, HC4.out, by omega, Lib.hid (by rw [HHIT.out rfl, List.length_append, HON.out]; rfl), H.imp (fun W h => ⟨h.1, by rw [HHIT.out rfl, flH_snoc]; exact h.2⟩)⟩
          case measure => simp [intOf]; omega
        · obtain rfl : j = n := by omega
          have HT : Hid (toldR me l (k + 1) = toldR me l k) := Lib.hid (toldR_none (pick_miss (fun x hx => HQ.out x (by rw [List.take_of_length_le (by rw [HN.out]; exact Nat.le_refl _)]; exact hx))))
          go_wp2
          go_roundw
          case rel => exact ⟨k + 1, Ao, on, co, by omega, by simp, rfl, hco, by omega, Lib.hid (by rw [HT.out]; exact HON.out), H.imp (fun W h => ⟨h.1, by rw [HT.out]; exact h.2⟩)⟩
          case measure => simp [intOf]; omega
    · obtain rfl : k = m := by omega
      by_cases hN : (k : Int) < p.N
      · have d1 : decide ((k : Int) < p.N) = true := decide_eq_true hN
        have hk6 : k = 16 := by have := HM.out.2.1; omega
        have d2 : decide ((k : Int) < 16) = false := decide_eq_false (by omega)
        clear hN hk6
        go_wp2_with (first
          | ((with_reducible refine gate_dst (N := 13) rfl ?_); refine fr_get H rfl rfl rfl (by repeat (first | exact At.head | apply At.tail)) Tryz.underlying3 rfl (by simp only [List.getElem?_toArray, List.getElem?_cons_succ, List.getElem?_cons_zero]; rfl) ?_)
          | fail)
        go_ret
        exact ⟨Ao, co, by rw [HON.out]; try rfl, by rw [HON.out]; exact H.now.2, H.below⟩
      · have d1 : decide ((k : Int) < p.N) = false := decide_eq_false hN
        clear hN
        go_wp2_with (first
          | ((with_reducible refine gate_dst (N := 13) rfl ?_); refine fr_get H rfl rfl rfl (by repeat (first | exact At.head | apply At.tail)) Tryz.underlying3 rfl (by simp only [List.getElem?_toArray, List.getElem?_cons_succ, List.getElem?_cons_zero]; rfl) ?_)
          | fail)
        go_ret
        exact ⟨Ao, co, by rw [HON.out]; try rfl, by rw [HON.out]; exact H.now.2, H.below⟩
end Go.Proofs.YtbmfgcekglgliaaGreat.G
