/- Texts GateHolds, in one file, without what is not needed here. -/
import Derived.Test.YtbmfgcekglgliaaZGateHolds12
namespace Go.Proofs.Ytbmfgcekglgliaa.X
open Go.RowKit Go.Proofs.YtbmfgcekglgliaaW.PrintWords Go.Proofs.YtbmfgcekglgliaaW.PrintLast Go.Proofs.YtbmfgcekglgliaaW.PrintMore
set_option linter.unusedVariables false
structure S41 where
  f0 : Int
  f1 : Int
  f2 : Int
def z41 : S41 := ⟨0, 0, 0⟩
def k41 : Kd S41 := Kd.iso (Kd.pair (Kd.int .i64) (Kd.pair (Kd.int .i64) (Kd.int .i64))) (fun x : S41 => (x.f0, x.f1, x.f2))
theorem k41_open {w : World} {x : S41} {cs : List Value} (h : k41.K w x cs) : cs = [.int .i64 x.f0, .int .i64 x.f1, .int .i64 x.f2] := by
  obtain ⟨_, _, rfl, rfl, _, _, rfl, rfl, rfl⟩ := h
  rfl
end Go.Proofs.Ytbmfgcekglgliaa.X
namespace Go.Proofs.Ytbmfgcekglgliaa.G
open Go.RowKit Go.Proofs.YtbmfgcekglgliaaW.PrintWords Go.Proofs.YtbmfgcekglgliaaW.PrintLast Go.Proofs.YtbmfgcekglgliaaW.PrintMore Go.Proofs.YtbmfgcekglgliaaPl Go.Proofs.YtbmfgcekglgliaaEm Go.Proofs.YtbmfgcekglgliaaKr Go.Proofs.YtbmfgcekglgliaaRz Go.Proofs.Ytbmfgcekglgliaa.X
set_option linter.unusedVariables false
set_option linter.unusedSimpArgs false
theorem check_bd' {p : Par} (h : checkP p = true) : (1 ≤ p.N ∧ p.N ≤ 16) ∧ (0 ≤ p.F ∧ p.F ≤ (p.N - 1) / 3) ∧ (0 ≤ p.D ∧ p.D ≤ 16) ∧ (1 ≤ p.Be ∧ p.Be ≤ 1099511627776) ∧ (0 ≤ p.Rho ∧ p.Rho ≤ p.Be / 8) ∧ (0 ≤ p.De ∧ p.De ≤ p.Be / 2) ∧ (0 ≤ p.Ji ∧ p.Ji ≤ p.De) ∧ (0 ≤ p.Eps ∧ p.Eps ≤ 1099511627776) ∧ (p.Rho + 1 ≤ p.Mu ∧ p.Mu ≤ p.Be / 4) ∧ (p.D + 2 ≤ p.Ho ∧ p.Ho ≤ 1048576) ∧ (1 ≤ p.Pu ∧ p.Pu ≤ 1099511627776) := by
  unfold checkP at h
  simp only [Bool.and_eq_true] at h
  obtain ⟨⟨⟨⟨⟨⟨⟨⟨h1, h2⟩, h3⟩, ⟨⟨h4, h5⟩, h6⟩, h7⟩, h8⟩, h9⟩, h10⟩, h11⟩, h12⟩ := h
  exact ⟨in_bd h1, in_bd h2, in_bd h3, in_bd h4, in_bd h5, in_bd h6, in_bd h7, in_bd h8, in_bd h9, in_bd h10, in_bd h11⟩
def RowT (w : World) (A : Option Addr) (l : List Tl) : Prop := ∀ k (hk : k < l.length), ∃ ad, A = some ad ∧ ∀ j u, [Value.int .i64 l[k].err, .int .i64 l[k].way, .int .i64 l[k].off][j]? = some u → w.cell? ((ad.add (k * 3)).add j) = some u
theorem Fr.appendedOwn {M A : Nat → Prop} {w W W1 : World} {bl : List (Nat × Obj)} {p q : World → Prop} {e : TypeId} {sz n c n2 c2 g4 : Nat} {Ao : Option Addr} {xs ys : List Value} (H : Fr M A w W bl q) (hM : ∀ k, M k → A k) (hp0 : Tr A w p) (hO : W.ownsRow w.heap.size e sz (.slice Ao n c) n xs) (hne : ∀ x, x ∈ bl → ∀ ad, Ao = some ad → x.1 ≠ ad.block) (hg : W.grownBy W1 (Value.slice Ao n c).ownBlock)
    (hown : W1.ownsRow w.heap.size e sz (.slice (some ⟨g4, 0, none⟩) n2 c2) n2 ys) (hat : some g4 = (Value.slice Ao n c).ownBlock ∨ some g4 = some W.heap.size) : Fr M A w W1 bl (fun W => p W ∧ W.ownsRow w.heap.size e sz (.slice (some ⟨g4, 0, none⟩) n2 c2) n2 ys) := by
  refine (Fr.appended2 H hM hp0 hO hne hg).and (Tr_own hown (Nat.le_refl _) (fun k ad hk ha => ?_))
  cases ha
  show k ≠ g4
  rcases hat with h1 | h1
  · cases Ao with
    | none => cases h1
    | some a8 =>
      have h2 : g4 = a8.block := by injection h1
      rcases hk with hk | ⟨x, hx, e1⟩
      · have := H.av k hk
        have := (own_lo hO a8 rfl).1
        omega
      · rw [h2, ← e1]
        exact hne x hx a8 rfl
  · have h2 : g4 = W.heap.size := by injection h1
    have := H.avs k hk
    omega
theorem own_shape1 {W : World} {b n : Nat} {e : TypeId} {sz : Nat} {v : Value} {xs : List Value} (h : W.ownsRow b e sz v n xs) (hn : 0 < n) : ∃ g4 cap, v = .slice (some ⟨g4, 0, none⟩) n cap ∧ n ≤ cap ∧ v.ownBlock = some g4 := by
  rcases h.2 with ⟨_, h3⟩ | ⟨g4, cap, cur, rfl, h3, h4, h5, _⟩
  · omega
  · exact ⟨g4, cap, rfl, h5, rfl⟩
def pHo (At : Option Addr) (l : List Tl) (Al : Option Addr) (z : List Hd) (As : Option Addr) (ts : List Lp) (W : World) : Prop := RowT W At l ∧ RowH W Al z ∧ Kd.C k82 W As ts.length ts
theorem infoH' : (Try.prog.info? 45).map (fun i => (i.zero, i.size, i.bytes)) = some (some (.agg #[.int .i64 0, .int .i64 0, .int .i64 0, .int .i64 0, .int .i64 0, .int .i64 0, .bool false, .bool false, .int .i64 0, .int .i64 0, .int .i64 0, .int .i64 0, .int .i64 0, .slice none 0 0, .int .i64 0]), 15, 128) := by kernel_rfl
theorem rightsK_len (p : Par) (now : Int) (l : List Tl) (k : Nat) : (rightsK p now l k).length = k - 1 := by simp [rightsK]
theorem good_cases (e wy of_ nE E D dj nR R : Int) (b : Bool) (hb : (decide (e ≤ E) && decide (nE ≤ e) && decide (wy ≤ D) && decide (dj ≤ wy) && decide (of_ ≤ R) && decide (nR ≤ of_)) = b) :
    (b = false ∧ decide (E < e) = true) ∨ (b = false ∧ decide (E < e) = false ∧ decide (e < nE) = true) ∨ (b = false ∧ decide (E < e) = false ∧ decide (e < nE) = false ∧ decide (D < wy) = true) ∨ (b = false ∧ decide (E < e) = false ∧ decide (e < nE) = false ∧ decide (D < wy) = false ∧ decide (wy < dj) = true) ∨
    (b = false ∧ decide (E < e) = false ∧ decide (e < nE) = false ∧ decide (D < wy) = false ∧ decide (wy < dj) = false ∧ decide (R < of_) = true) ∨ (b = false ∧ decide (E < e) = false ∧ decide (e < nE) = false ∧ decide (D < wy) = false ∧ decide (wy < dj) = false ∧ decide (R < of_) = false ∧ decide (of_ < nR) = true) ∨
    (b = true ∧ decide (E < e) = false ∧ decide (e < nE) = false ∧ decide (D < wy) = false ∧ decide (wy < dj) = false ∧ decide (R < of_) = false ∧ decide (of_ < nR) = false) := by
  have flip : ∀ x y : Int, decide (x ≤ y) = !decide (y < x) := fun x y => by
    by_cases h : x ≤ y
    · rw [decide_eq_true h, decide_eq_false (by omega)]; rfl
    · rw [decide_eq_false h, decide_eq_true (by omega)]; rfl
  rw [flip e E, flip nE e, flip wy D, flip dj wy, flip of_ R, flip nR of_] at hb
  cases h1 : decide (E < e)
  · cases h2 : decide (e < nE)
    · cases h3 : decide (D < wy)
      · cases h4 : decide (wy < dj)
        · cases h5 : decide (R < of_)
          · cases h6 : decide (of_ < nR)
            · rw [h1, h2, h3, h4, h5, h6] at hb; simp at hb ⊢; exact hb
            · rw [h1, h2, h3, h4, h5, h6] at hb; simp at hb ⊢; exact hb
          · rw [h1, h2, h3, h4, h5] at hb; simp at hb ⊢; exact hb
        · rw [h1, h2, h3, h4] at hb; simp at hb ⊢; exact hb
      · rw [h1, h2, h3] at hb; simp at hb ⊢; exact hb
    · rw [h1, h2] at hb; simp at hb ⊢; exact hb
  · rw [h1] at hb; simp at hb ⊢; exact hb
theorem hne_list {M A : Nat → Prop} {w W : World} {bl : List (Nat × Obj)} {p : World → Prop} {b : Nat} {e : TypeId} {sz n c : Nat} {Ao : Option Addr} {xs : List Value} (H : Fr M A w W bl p) (h : W.ownsRow b e sz (.slice Ao n c) n xs) (hne : ∀ x, x ∈ bl → ∃ cs t, x.2 = .cells cs t (0, 0) ∧ t ≠ e) : ∀ x, x ∈ bl → ∀ ad, Ao = some ad → x.1 ≠ ad.block := by
  intro x hx ad ha
  obtain ⟨cs, t, e1, e2⟩ := hne x hx
  have := (H.blk x hx).1
  rw [e1] at this
  exact own_ne h this e2 ad ha
set_option maxRecDepth 100000 in
set_option maxHeartbeats 40000000 in
theorem Holds_calls (p : Par) (s : St) (As : Option Addr) (cs : Nat) (now err : Int) (l : List Tl) (Ae : Option Addr) (ce : Nat) (z : List Hd) (Al : Option Addr) (cl : Nat) (w : World) (hr : Tr (fun _ => False) w (pHo Ae l Al z As s.tab)) (hzl : z.length ≤ 9223372036854775807) (hll : l.length ≤ 9223372036854775807) :
    Calls Try.prog 3 #[.agg #[.int .i64 p.N, .int .i64 p.F, .int .i64 p.D, .int .i64 p.Be, .int .i64 p.Rho, .int .i64 p.De, .int .i64 p.Ji, .int .i64 p.Eps, .int .i64 p.Mu, .int .i64 p.Ho, .int .i64 p.Pu, .int .i64 p.Se], .agg #[.int .i64 s.lo, .int .i64 s.hi, .int .i64 s.time, .bool s.set, .int .i64 s.held, .int .i64 s.hops, .bool s.good, .slice As s.tab.length cs, .int .i64 s.st, .int .i64 s.sn, .int .i64 s.life], .int .i64 now, .slice Ae l.length ce, .slice Al z.length cl, .int .i64 err] w fun e w' => e = .returned (.bool true) ∧ Below w.heap.size w w' := by
  have H := Fr.start0 (M := fun _ => False) (A := fun _ => False) (w := w) (p := pHo Ae l Al z As s.tab) (fun _ h => h.elim) hr
  have HR0 := Lib.hid hr
  obtain ⟨i0, hi0, hz0, hz1, hz2⟩ := info_parts infoH'
  obtain ⟨b1, hb1⟩ : ∃ b, greatP s.tab.length [⟨⟨0, z, false, 0, false, []⟩, Al, cl, none, 0⟩] = b := ⟨_, rfl⟩
  obtain ⟨ck, hck⟩ : ∃ b, checkP p = b := ⟨_, rfl⟩
  have KC : Hid (∀ W, Calls Try.prog 7 #[.agg #[.int .i64 p.N, .int .i64 p.F, .int .i64 p.D, .int .i64 p.Be, .int .i64 p.Rho, .int .i64 p.De, .int .i64 p.Ji, .int .i64 p.Eps, .int .i64 p.Mu, .int .i64 p.Ho, .int .i64 p.Pu, .int .i64 p.Se]] W fun e w' => e = .returned (.int .i64 (if ck = true then 0 else 1)) ∧ Below W.heap.size W w') := Lib.hid (fun W => by have := Check_calls p W; rw [hck] at this; exact this)
  have KG : Hid (∀ W y, Tr (fun _ => False) W (fun W => RowI W (some ⟨y, 0, none⟩) [⟨⟨0, z, false, 0, false, []⟩, Al, cl, none, 0⟩]) → Calls Try.prog 8 #[.agg #[.int .i64 s.lo, .int .i64 s.hi, .int .i64 s.time, .bool s.set, .int .i64 s.held, .int .i64 s.hops, .bool s.good, .slice As s.tab.length cs, .int .i64 s.st, .int .i64 s.sn, .int .i64 s.life], .slice (some ⟨y, 0, none⟩) 1 1] W fun e w' => e = .returned (.bool b1) ∧ Below W.heap.size W w') := Lib.hid (fun W y h => by
    have := great_calls s.lo s.hi s.time s.set s.held s.hops s.good As s.tab.length cs s.st s.sn s.life (some ⟨y, 0, none⟩) 1 [⟨⟨0, z, false, 0, false, []⟩, Al, cl, none, 0⟩] W h (by simp) (fun y hy => by rw [List.mem_singleton.1 hy]; exact hzl)
    rw [hb1] at this
    exact this)
  have HCK : Hid (ck = true → (1 ≤ p.N ∧ p.N ≤ 16) ∧ (0 ≤ p.F ∧ p.F ≤ (p.N - 1) / 3) ∧ (0 ≤ p.D ∧ p.D ≤ 16) ∧ (1 ≤ p.Be ∧ p.Be ≤ 1099511627776) ∧ (0 ≤ p.Rho ∧ p.Rho ≤ p.Be / 8) ∧ (0 ≤ p.De ∧ p.De ≤ p.Be / 2) ∧ (0 ≤ p.Ji ∧ p.Ji ≤ p.De) ∧ (0 ≤ p.Eps ∧ p.Eps ≤ 1099511627776) ∧ (p.Rho + 1 ≤ p.Mu ∧ p.Mu ≤ p.Be / 4) ∧ (p.D + 2 ≤ p.Ho ∧ p.Ho ≤ 1048576) ∧ (1 ≤ p.Pu ∧ p.Pu ≤ 1099511627776)) := Lib.hid (fun h => by rw [h] at hck; exact check_bd' hck)
  obtain ⟨y, hy⟩ : ∃ y, saneS p.D s = y := ⟨_, rfl⟩
  have HLA : Hid (b1 = false → z.length ≤ 40 ∧ s.tab.length ≤ 4096 ∧ y.tab.length ≤ 4096) := Lib.hid (fun h => by
    rw [h] at hb1
    have := great_no hb1
    have h2 := saneS_tab p.D s
    rw [hy] at h2
    dsimp only at this
    omega)
  have KN : Hid (∀ W, b1 = false → pHo Ae l Al z As s.tab W → Calls Try.prog 9 #[.agg #[.int .i64 p.N, .int .i64 p.F, .int .i64 p.D, .int .i64 p.Be, .int .i64 p.Rho, .int .i64 p.De, .int .i64 p.Ji, .int .i64 p.Eps, .int .i64 p.Mu, .int .i64 p.Ho, .int .i64 p.Pu, .int .i64 p.Se], .int .i64 0, .agg #[.int .i64 s.lo, .int .i64 s.hi, .int .i64 s.time, .bool s.set, .int .i64 s.held, .int .i64 s.hops, .bool s.good, .slice As s.tab.length cs, .int .i64 s.st, .int .i64 s.sn, .int .i64 s.life]] W fun e w' => ∃ g A' c', e = .returned (.pointer (some ⟨g, 0, none⟩)) ∧ W.heap.size ≤ g ∧ w'.heap[g]? = some (.cells #[.int .i64 p.N, .int .i64 p.F, .int .i64 p.D, .int .i64 p.Be, .int .i64 p.Rho, .int .i64 p.De, .int .i64 p.Ji, .int .i64 p.Eps, .int .i64 p.Mu, .int .i64 p.Ho, .int .i64 p.Pu, .int .i64 p.Se, .int .i64 y.lo, .int .i64 y.hi, .int .i64 y.time, .bool y.set, .int .i64 y.held, .int .i64 y.hops, .bool y.good, .slice A' y.tab.length c', .int .i64 y.st, .int .i64 y.sn, .int .i64 y.life, .int .i64 0] 52 (0, 0)) ∧ w'.ownsRow W.heap.size 82 2 (.slice A' y.tab.length c') y.tab.length (flL y.tab) ∧ (∀ ad, A' = some ad → ad.block ≠ g) ∧ Below W.heap.size W w') := Lib.hid (fun W hb h => New_to p 0 s As cs W y hy h.2.2 (HLA.out hb).2.1)
  have KSa : Hid (∀ W, b1 = false → Kd.C k82 W As s.tab.length s.tab → Calls Try.prog 14 #[.agg #[.int .i64 p.N, .int .i64 p.F, .int .i64 p.D, .int .i64 p.Be, .int .i64 p.Rho, .int .i64 p.De, .int .i64 p.Ji, .int .i64 p.Eps, .int .i64 p.Mu, .int .i64 p.Ho, .int .i64 p.Pu, .int .i64 p.Se], .agg #[.int .i64 s.lo, .int .i64 s.hi, .int .i64 s.time, .bool s.set, .int .i64 s.held, .int .i64 s.hops, .bool s.good, .slice As s.tab.length cs, .int .i64 s.st, .int .i64 s.sn, .int .i64 s.life]] W fun e w' => ∃ A' c', e = .returned (.agg #[.int .i64 y.lo, .int .i64 y.hi, .int .i64 y.time, .bool y.set, .int .i64 y.held, .int .i64 y.hops, .bool y.good, .slice A' y.tab.length c', .int .i64 y.st, .int .i64 y.sn, .int .i64 y.life]) ∧ w'.ownsRow W.heap.size 82 2 (.slice A' y.tab.length c') y.tab.length (flL y.tab) ∧ Below W.heap.size W w') := Lib.hid (fun W hb h => by
    have := Sane_calls p s As cs W h (HLA.out hb).2.1
    rw [hy] at this
    exact this)
  obtain ⟨x, hx⟩ : ∃ x : Inp, x = ⟨p.Be + err, rightsK p now l l.length ++ liesK l.length z z.length, true, now + p.Be + (l.getD 0 tl0).err, false, []⟩ := ⟨_, rfl⟩
  obtain ⟨u, hu⟩ : ∃ u, beatS p 0 y x = u := ⟨_, rfl⟩
  have HB0 : Hid (beatS p 0 y x = u ∧ x = ⟨p.Be + err, rightsK p now l l.length ++ liesK l.length z z.length, true, now + p.Be + (l.getD 0 tl0).err, false, []⟩) := Lib.hid ⟨hu, hx⟩
  obtain ⟨ob, hob⟩ : ∃ o, ofP p y.set y.good y.held y.hops = o := ⟨_, rfl⟩
  have KOf : Hid (∀ W A c, Calls Try.prog 13 #[.agg #[.int .i64 p.N, .int .i64 p.F, .int .i64 p.D, .int .i64 p.Be, .int .i64 p.Rho, .int .i64 p.De, .int .i64 p.Ji, .int .i64 p.Eps, .int .i64 p.Mu, .int .i64 p.Ho, .int .i64 p.Pu, .int .i64 p.Se], .agg #[.int .i64 y.lo, .int .i64 y.hi, .int .i64 y.time, .bool y.set, .int .i64 y.held, .int .i64 y.hops, .bool y.good, .slice A y.tab.length c, .int .i64 y.st, .int .i64 y.sn, .int .i64 y.life]] W fun e w' => e = .returned (.int .i64 ob) ∧ Below W.heap.size W w') := Lib.hid (fun W A c => by
    have := Of_calls p y.lo y.hi y.time y.set y.held y.hops y.good A y.tab.length c y.st y.sn y.life W
    rw [hob] at this
    exact this)
  have HH : Hid (ck = true → -1125899906842624 ≤ now ∧ now ≤ 1125899906842624 → (l.length : Int) = p.N - p.F → (z.length : Int) ≤ p.F → -p.Rho ≤ err ∧ err ≤ p.Rho → (∀ q ∈ l, okT p q) → u.lo ≤ now + p.Be ∧ now + p.Be ≤ u.hi ∧ u.hi - u.lo ≤ 2 * p.Eps + hopP p ∧ u.held = 0 ∧ ofP p u.set u.good u.held u.hops = 1 ∧ rdB p x = true ∧ -2305843009213693952 ≤ u.lo ∧ u.hi ≤ 2305843009213693952 ∧ hopP p = p.Ji + 2 * p.Rho ∧ (ob = 0 → u.lo ≤ u.time ∧ u.time ≤ u.hi)) := Lib.hid (fun hc h1 h2 h3 h4 h5 => by
    have := holds p s now err l z x (HCK.out hc) h1 h2 h3 h4 h5 hx
    rw [hy] at this
    rw [← hob, ← hu]
    exact this)
  have KHop : Hid (∀ W, Calls Try.prog 11 #[.agg #[.int .i64 p.N, .int .i64 p.F, .int .i64 p.D, .int .i64 p.Be, .int .i64 p.Rho, .int .i64 p.De, .int .i64 p.Ji, .int .i64 p.Eps, .int .i64 p.Mu, .int .i64 p.Ho, .int .i64 p.Pu, .int .i64 p.Se]] W fun e w' => e = .returned (.int .i64 (hopP p)) ∧ Below W.heap.size W w') := Lib.hid (fun W => Hop_calls p W)
  obtain ⟨k2, h2⟩ : ∃ b, decide ((1125899906842624 : Int) < now) = b := ⟨_, rfl⟩
  obtain ⟨k3, h3⟩ : ∃ b, decide (now < -1125899906842624) = b := ⟨_, rfl⟩
  obtain ⟨nf, hnf⟩ : ∃ f, p.N - p.F = f := ⟨_, rfl⟩
  obtain ⟨k4, h4⟩ : ∃ b, ((l.length : Int) != nf) = b := ⟨_, rfl⟩
  obtain ⟨k5, h5⟩ : ∃ b, decide (p.F < (z.length : Int)) = b := ⟨_, rfl⟩
  obtain ⟨k6, h6⟩ : ∃ b, decide (p.Rho < err) = b := ⟨_, rfl⟩
  obtain ⟨nr, hnr⟩ : ∃ f, -p.Rho = f := ⟨_, rfl⟩
  obtain ⟨k7, h7⟩ : ∃ b, decide (err < nr) = b := ⟨_, rfl⟩
  have HQ := Lib.hid (And.intro hnf hnr)
  have HHE : Hid (∀ W, pHo Ae l Al z As s.tab W → RowH W Al z) := Lib.hid (fun W h => h.2.1)
  have HF : Hid (k2 = false → k3 = false → k4 = false → k5 = false → k6 = false → k7 = false → (-1125899906842624 ≤ now ∧ now ≤ 1125899906842624) ∧ (l.length : Int) = p.N - p.F ∧ (z.length : Int) ≤ p.F ∧ -p.Rho ≤ err ∧ err ≤ p.Rho) := Lib.hid (fun e2 e3 e4 e5 e6 e7 => by
    rw [e2] at h2; rw [e3] at h3; rw [e4] at h4; rw [e5] at h5; rw [e6] at h6; rw [e7] at h7
    have h2 := of_decide_eq_false h2
    have h3 := of_decide_eq_false h3
    have h4 : (l.length : Int) = nf := by simpa using h4
    have h5 := of_decide_eq_false h5
    have h6 := of_decide_eq_false h6
    have h7 := of_decide_eq_false h7
    omega)
  clear hck hb1 hr hx hu hob hy hnf hnr
  obtain ⟨slo, shi, stime, sset, sheld, shops, sgood, stab, sst, ssn, slife⟩ := s
  obtain ⟨ylo, yhi, ytime, yset, yheld, yhops, ygood, ytab, yst, ysn, ylife⟩ := y
  obtain ⟨ulo, uhi, utime, uset, uheld, uhops, ugood, utab, ust, usn, ulife⟩ := u
  dsimp only at KG KN KSa KOf HH H HR0 HHE HLA ⊢
  obtain ⟨ns, hns⟩ : ∃ n, stab.length = n := ⟨_, rfl⟩
  obtain ⟨nl, hnl⟩ : ∃ n, l.length = n := ⟨_, rfl⟩
  obtain ⟨nz, hnz⟩ : ∃ n, z.length = n := ⟨_, rfl⟩
  have HN := Lib.hid (And.intro hns (And.intro hnl hnz))
  have HEN : Hid (encI ⟨⟨0, z, false, 0, false, []⟩, Al, cl, none, 0⟩ = [.int .i64 0, .slice Al nz cl, .bool false, .int .i64 0, .bool false, .slice none 0 0]) := Lib.hid (by unfold encI; dsimp only; rw [hnz]; rfl)
  rw [hns] at KG KN KSa
  rw [hnl] at h4 hll
  rw [hnz] at h5 hzl
  rw [hns, hnl, hnz]
  clear hns hnl hnz
  go_enter Try.func3, Try.ntmps3
  cases ck
  case false =>
    go_wp2_with (first
      | (go_at_call 6; (with_reducible refine (alive_calls _).mono ?_); rintro e w' ⟨rfl, hb⟩; have H1 := H.call hb; clear hb; clear H; have H := H1; clear H1)
      | (go_at_call 7; (with_reducible refine (KC.out _).mono ?_); rintro e w' ⟨rfl, hb⟩; have H1 := H.call hb; clear hb; clear H; have H := H1; clear H1)
      | (go_at_call 8; have HT := rowI_one (y := ⟨⟨0, z, false, 0, false, []⟩, Al, cl, none, 0⟩) H (by rw [HEN.out]; exact H.of At.head) HHE.out; (with_reducible refine (KG.out _ _ HT).mono ?_); clear HT; rintro e w' ⟨rfl, hb⟩; have H1 := H.call hb; clear hb; clear H; have H := H1; clear H1)
      | ((with_reducible refine gate_dst (N := 6) rfl ?_); refine fr_box H rfl rfl rfl ?_; intro g6 w6 H1; clear H; have H := H1; clear H1)
      | ((with_reducible refine gate_dst (N := 7) rfl ?_); refine fr_box H rfl rfl rfl ?_; intro g7 w7 H1; clear H; have H := H1; clear H1)
      | ((with_reducible refine gate_dst (N := 25) rfl ?_); refine fr_sub H (n := 12) rfl rfl rfl (by repeat (first | exact At.head | apply At.tail)) Try.underlying23 rfl (by kernel_rfl) (by simp only [List.toList_toArray, List.drop_succ_cons, List.drop_zero, List.take_succ_cons, List.take_zero]; rfl) (by rfl) ?_)
      | ((with_reducible refine gate_dst (N := 29) rfl ?_); (try (refine gate_guard (by rfl) ?_; dsimp only)); refine fr_sub H (n := 11) rfl rfl rfl (by repeat (first | exact At.head | apply At.tail)) Try.underlying30 rfl (by kernel_rfl) (by simp only [List.toList_toArray, List.drop_succ_cons, List.drop_zero, List.take_succ_cons, List.take_zero]; rfl) (by rfl) ?_)
      | ((with_reducible refine gate_dst (N := 32) rfl ?_); (try (refine gate_guard (by rfl) ?_; dsimp only)); refine fr_rowv H (N := 32) rfl rfl (fun K hK => by go_simp; exact hK.out) ?_; intro x32 w32 H1; clear H; have H := H1; clear H1)
      | ((with_reducible refine gate_dst (N := 47) rfl ?_); (try (refine gate_guard (by rfl) ?_; dsimp only)); refine fr_get H rfl rfl rfl (by repeat (first | exact At.head | apply At.tail)) Try.underlying3 rfl (by simp only [List.getElem?_toArray, List.getElem?_cons_succ, List.getElem?_cons_zero]; rfl) ?_)
      | ((with_reducible refine gate_dst (N := 49) rfl ?_); (try (refine gate_guard (by rfl) ?_; dsimp only)); refine fr_get H rfl rfl rfl (by repeat (first | exact At.head | apply At.tail)) Try.underlying3 rfl (by simp only [List.getElem?_toArray, List.getElem?_cons_succ, List.getElem?_cons_zero]; rfl) ?_)
      | ((with_reducible refine gate_dst (N := 57) rfl ?_); (try (refine gate_guard (by rfl) ?_; dsimp only)); refine fr_get H rfl rfl rfl (by repeat (first | exact At.head | apply At.tail)) Try.underlying3 rfl (by simp only [List.getElem?_toArray, List.getElem?_cons_succ, List.getElem?_cons_zero]; rfl) ?_)
      | ((with_reducible refine gate_dst (N := 63) rfl ?_); (try (refine gate_guard (by rfl) ?_; dsimp only)); refine fr_get H rfl rfl rfl (by repeat (first | exact At.head | apply At.tail)) Try.underlying3 rfl (by simp only [List.getElem?_toArray, List.getElem?_cons_succ, List.getElem?_cons_zero]; rfl) ?_)
      | ((with_reducible refine gate_dst (N := 69) rfl ?_); (try (refine gate_guard (by rfl) ?_; dsimp only)); refine fr_get H rfl rfl rfl (by repeat (first | exact At.head | apply At.tail)) Try.underlying3 rfl (by simp only [List.getElem?_toArray, List.getElem?_cons_succ, List.getElem?_cons_zero]; rfl) ?_)
      | fail)
    go_ret
    exact ⟨rfl, H.below⟩
  have hc0 := HCK.out rfl
  have hw1 : IntKind.i64.wrap (p.N - p.F) = nf := by rw [IntKind.wrap_i64]; have := HQ.out; omega
  have hw2 : IntKind.i64.wrap (-p.Rho) = nr := by rw [IntKind.wrap_i64]; have := HQ.out; omega
  clear hc0
  cases b1
  cases k2
  cases k3
  cases k4
  cases k5
  cases k6
  cases k7
  rotate_left
  iterate 7
    focus
      go_wp2_with (first
        | (go_at_call 6; (with_reducible refine (alive_calls _).mono ?_); rintro e w' ⟨rfl, hb⟩; have H1 := H.call hb; clear hb; clear H; have H := H1; clear H1)
        | (go_at_call 7; (with_reducible refine (KC.out _).mono ?_); rintro e w' ⟨rfl, hb⟩; have H1 := H.call hb; clear hb; clear H; have H := H1; clear H1)
        | (go_at_call 8; have HT := rowI_one (y := ⟨⟨0, z, false, 0, false, []⟩, Al, cl, none, 0⟩) H (by rw [HEN.out]; exact H.of At.head) HHE.out; (with_reducible refine (KG.out _ _ HT).mono ?_); clear HT; rintro e w' ⟨rfl, hb⟩; have H1 := H.call hb; clear hb; clear H; have H := H1; clear H1)
        | ((with_reducible refine gate_dst (N := 6) rfl ?_); refine fr_box H rfl rfl rfl ?_; intro g6 w6 H1; clear H; have H := H1; clear H1)
        | ((with_reducible refine gate_dst (N := 7) rfl ?_); refine fr_box H rfl rfl rfl ?_; intro g7 w7 H1; clear H; have H := H1; clear H1)
        | ((with_reducible refine gate_dst (N := 25) rfl ?_); refine fr_sub H (n := 12) rfl rfl rfl (by repeat (first | exact At.head | apply At.tail)) Try.underlying23 rfl (by kernel_rfl) (by simp only [List.toList_toArray, List.drop_succ_cons, List.drop_zero, List.take_succ_cons, List.take_zero]; rfl) (by rfl) ?_)
        | ((with_reducible refine gate_dst (N := 29) rfl ?_); (try (refine gate_guard (by rfl) ?_; dsimp only)); refine fr_sub H (n := 11) rfl rfl rfl (by repeat (first | exact At.head | apply At.tail)) Try.underlying30 rfl (by kernel_rfl) (by simp only [List.toList_toArray, List.drop_succ_cons, List.drop_zero, List.take_succ_cons, List.take_zero]; rfl) (by rfl) ?_)
        | ((with_reducible refine gate_dst (N := 32) rfl ?_); (try (refine gate_guard (by rfl) ?_; dsimp only)); refine fr_rowv H (N := 32) rfl rfl (fun K hK => by go_simp; exact hK.out) ?_; intro x32 w32 H1; clear H; have H := H1; clear H1)
        | ((with_reducible refine gate_dst (N := 47) rfl ?_); (try (refine gate_guard (by rfl) ?_; dsimp only)); refine fr_get H rfl rfl rfl (by repeat (first | exact At.head | apply At.tail)) Try.underlying3 rfl (by simp only [List.getElem?_toArray, List.getElem?_cons_succ, List.getElem?_cons_zero]; rfl) ?_)
        | ((with_reducible refine gate_dst (N := 49) rfl ?_); (try (refine gate_guard (by rfl) ?_; dsimp only)); refine fr_get H rfl rfl rfl (by repeat (first | exact At.head | apply At.tail)) Try.underlying3 rfl (by simp only [List.getElem?_toArray, List.getElem?_cons_succ, List.getElem?_cons_zero]; rfl) ?_)
        | ((with_reducible refine gate_dst (N := 57) rfl ?_); (try (refine gate_guard (by rfl) ?_; dsimp only)); refine fr_get H rfl rfl rfl (by repeat (first | exact At.head | apply At.tail)) Try.underlying3 rfl (by simp only [List.getElem?_toArray, List.getElem?_cons_succ, List.getElem?_cons_zero]; rfl) ?_)
        | ((with_reducible refine gate_dst (N := 63) rfl ?_); (try (refine gate_guard (by rfl) ?_; dsimp only)); refine fr_get H rfl rfl rfl (by repeat (first | exact At.head | apply At.tail)) Try.underlying3 rfl (by simp only [List.getElem?_toArray, List.getElem?_cons_succ, List.getElem?_cons_zero]; rfl) ?_)
        | ((with_reducible refine gate_dst (N := 69) rfl ?_); (try (refine gate_guard (by rfl) ?_; dsimp only)); refine fr_get H rfl rfl rfl (by repeat (first | exact At.head | apply At.tail)) Try.underlying3 rfl (by simp only [List.getElem?_toArray, List.getElem?_cons_succ, List.getElem?_cons_zero]; rfl) ?_)
        | fail)
      go_ret
      exact ⟨rfl, H.below⟩
  have KN' := Lib.hid (fun W => KN.out W rfl)
  have KSa' := Lib.hid (fun W (h : Kd.C k82 W As stab.length stab) => KSa.out W rfl (by rw [HN.out.1] at h; exact h))
  have HH' := Lib.hid (HH.out rfl)
  have HCK' := Lib.hid (HCK.out rfl)
  have HLA' := Lib.hid (HLA.out rfl)
  have HF' := Lib.hid (HF.out rfl rfl rfl rfl rfl rfl)
  clear KN KSa HH HCK HLA HF
  obtain ⟨tk, htk⟩ : ∃ t, p.Be + err = t := ⟨_, rfl⟩
  have hx1 : IntKind.i64.wrap (p.Be + err) = tk := by rw [IntKind.wrap_i64]; have := HCK'.out; have := HF'.out; omega
  have HTK := Lib.hid htk
  clear htk
  go_wp2_with (first
    | (go_at_call 6; (with_reducible refine (alive_calls _).mono ?_); rintro e w' ⟨rfl, hb⟩; have H1 := H.call hb; clear hb; clear H; have H := H1; clear H1)
    | (go_at_call 7; (with_reducible refine (KC.out _).mono ?_); rintro e w' ⟨rfl, hb⟩; have H1 := H.call hb; clear hb; clear H; have H := H1; clear H1)
    | (go_at_call 8; have HT := rowI_one (y := ⟨⟨0, z, false, 0, false, []⟩, Al, cl, none, 0⟩) H (by rw [HEN.out]; exact H.of At.head) HHE.out; (with_reducible refine (KG.out _ _ HT).mono ?_); clear HT; rintro e w' ⟨rfl, hb⟩; have H1 := H.call hb; clear hb; clear H; have H := H1; clear H1)
    | ((with_reducible refine gate_dst (N := 6) rfl ?_); refine fr_box H rfl rfl rfl ?_; intro g6 w6 H1; clear H; have H := H1; clear H1)
    | ((with_reducible refine gate_dst (N := 7) rfl ?_); refine fr_box H rfl rfl rfl ?_; intro g7 w7 H1; clear H; have H := H1; clear H1)
    | ((with_reducible refine gate_dst (N := 25) rfl ?_); refine fr_sub H (n := 12) rfl rfl rfl (by repeat (first | exact At.head | apply At.tail)) Try.underlying23 rfl (by kernel_rfl) (by simp only [List.toList_toArray, List.drop_succ_cons, List.drop_zero, List.take_succ_cons, List.take_zero]; rfl) (by rfl) ?_)
    | ((with_reducible refine gate_dst (N := 29) rfl ?_); (try (refine gate_guard (by rfl) ?_; dsimp only)); refine fr_sub H (n := 11) rfl rfl rfl (by repeat (first | exact At.head | apply At.tail)) Try.underlying30 rfl (by kernel_rfl) (by simp only [List.toList_toArray, List.drop_succ_cons, List.drop_zero, List.take_succ_cons, List.take_zero]; rfl) (by rfl) ?_)
    | ((with_reducible refine gate_dst (N := 32) rfl ?_); (try (refine gate_guard (by rfl) ?_; dsimp only)); refine fr_rowv H (N := 32) rfl rfl (fun K hK => by go_simp; exact hK.out) ?_; intro x32 w32 H1; clear H; have H := H1; clear H1)
    | ((with_reducible refine gate_dst (N := 47) rfl ?_); (try (refine gate_guard (by rfl) ?_; dsimp only)); refine fr_get H rfl rfl rfl (by repeat (first | exact At.head | apply At.tail)) Try.underlying3 rfl (by simp only [List.getElem?_toArray, List.getElem?_cons_succ, List.getElem?_cons_zero]; rfl) ?_)
    | ((with_reducible refine gate_dst (N := 49) rfl ?_); (try (refine gate_guard (by rfl) ?_; dsimp only)); refine fr_get H rfl rfl rfl (by repeat (first | exact At.head | apply At.tail)) Try.underlying3 rfl (by simp only [List.getElem?_toArray, List.getElem?_cons_succ, List.getElem?_cons_zero]; rfl) ?_)
    | ((with_reducible refine gate_dst (N := 57) rfl ?_); (try (refine gate_guard (by rfl) ?_; dsimp only)); refine fr_get H rfl rfl rfl (by repeat (first | exact At.head | apply At.tail)) Try.underlying3 rfl (by simp only [List.getElem?_toArray, List.getElem?_cons_succ, List.getElem?_cons_zero]; rfl) ?_)
    | ((with_reducible refine gate_dst (N := 63) rfl ?_); (try (refine gate_guard (by rfl) ?_; dsimp only)); refine fr_get H rfl rfl rfl (by repeat (first | exact At.head | apply At.tail)) Try.underlying3 rfl (by simp only [List.getElem?_toArray, List.getElem?_cons_succ, List.getElem?_cons_zero]; rfl) ?_)
    | ((with_reducible refine gate_dst (N := 69) rfl ?_); (try (refine gate_guard (by rfl) ?_; dsimp only)); refine fr_get H rfl rfl rfl (by repeat (first | exact At.head | apply At.tail)) Try.underlying3 rfl (by simp only [List.getElem?_toArray, List.getElem?_cons_succ, List.getElem?_cons_zero]; rfl) ?_)
    | ((with_reducible refine gate_dst (N := 74) rfl ?_); refine fr_get H rfl rfl rfl (by repeat (first | exact At.head | apply At.tail)) Try.underlying3 rfl (by simp only [List.getElem?_toArray, List.getElem?_cons_succ, List.getElem?_cons_zero]; rfl) ?_)
    | ((with_reducible refine gate_dst (N := 13) rfl ?_); refine fr_new H (N := 13) rfl rfl (cs := #[.int .i64 0, .slice none 0 0, .bool false, .int .i64 0, .bool false, .slice none 0 0]) (t := 38) ?hr ?_; (case hr => first | (go_simp; done) | (go_simp; rfl)); intro g13 w13 H1; clear H; have H := H1; clear H1)
    | ((with_reducible refine gate_store (t := 38) (p := 13) rfl ?_); refine fr_put H rfl rfl rfl rfl rfl (by repeat (first | exact At.head | apply At.tail)) (by rfl) (by kernel_rfl) (by simp [Value.oneCell']) ?_; intro w13_ H1; clear H; have H := H1; clear H1)
    | fail)
  obtain ⟨nE, hnE⟩ : ∃ t, -p.Eps = t := ⟨_, rfl⟩
  obtain ⟨dj, hdj⟩ : ∃ t, p.De - p.Ji = t := ⟨_, rfl⟩
  obtain ⟨tn, htn⟩ : ∃ t, now + p.Be = t := ⟨_, rfl⟩
  have hw3 : IntKind.i64.wrap (-p.Eps) = nE := by rw [IntKind.wrap_i64]; have := HCK'.out; omega
  have hw4 : IntKind.i64.wrap (p.De - p.Ji) = dj := by rw [IntKind.wrap_i64]; have := HCK'.out; omega
  have hw5 : IntKind.i64.wrap (now + p.Be) = tn := by rw [IntKind.wrap_i64]; have := HCK'.out; have := HF'.out; omega
  have HE := Lib.hid (And.intro hnE (And.intro hdj htn))
  clear hnE hdj htn
  go_loopw [80] (fun v80 wr => ∃ (k : Nat) (Ao : Option Addr) (on co : Nat) (rd0 : Int), k ≤ nl ∧ v80 = .int .i64 k ∧ on ≤ co ∧ on ≤ k ∧ Hid ((rightsK p now l k).length = on) ∧ Hid (∀ q ∈ l.take k, okT p q) ∧ Hid (0 < k → rd0 = now + p.Be + (l.getD 0 tl0).err) ∧ Fr (fun _ => False) (fun _ => False) w wr [(g13, .cells #[.int .i64 tk, .slice Ao on co, .bool true, .int .i64 rd0, .bool false, .slice none 0 0] 38 (0, 0)), (g7, .cells #[.int .i64 slo, .int .i64 shi, .int .i64 stime, .bool sset, .int .i64 sheld, .int .i64 shops, .bool sgood, .slice As ns cs, .int .i64 sst, .int .i64 ssn, .int .i64 slife] 30 (0, 0)), (g6, .cells #[.int .i64 p.N, .int .i64 p.F, .int .i64 p.D, .int .i64 p.Be, .int .i64 p.Rho, .int .i64 p.De, .int .i64 p.Ji, .int .i64 p.Eps, .int .i64 p.Mu, .int .i64 p.Ho, .int .i64 p.Pu, .int .i64 p.Se] 23 (0, 0))] (fun W => pHo Ae l Al z As stab W ∧ W.ownsRow w.heap.size 45 15 (.slice Ao on co) on (flH (rightsK p now l k)))) (fun v80 _ => nl - (intOf v80).toNat)
  case atStart =>
    have H1 := Fr.sublist H (List.Sublist.cons_cons _ (List.Sublist.cons _ (List.Sublist.cons_cons _ (List.Sublist.cons_cons _ (List.nil_sublist _)))))
    exact ⟨0, none, 0, 0, 0, by omega, rfl, by omega, by omega, Lib.hid rfl, Lib.hid (fun q hq => by simp at hq), Lib.hid (fun h => by omega), H1.imp (fun W h => ⟨h, World.ownsRow_nil _ _ _ _⟩)⟩
  case round =>
    clear H
    obtain ⟨k, Ao, on, co, rd0, hk, rfl, hco, hon, HLEN, HOK, HRD, H⟩ := hrel
    by_cases hlt : k < nl
    · have hkl : k < l.length := by rw [HN.out.2.1]; exact hlt
      have hk1 : (k : Int) < (nl : Int) := by omega
      have hs1 : -9223372036854775808 ≤ (k : Int) + 1 := by omega
      have hs2 : (k : Int) + 1 ≤ 9223372036854775807 := by omega
      obtain ⟨ad, e0, hx0⟩ := H.now.1.1 k hkl
      cases e0
      obtain ⟨q, hq⟩ : ∃ q, l[k] = q := ⟨_, rfl⟩
      have HTK2 : Hid (l.take (k + 1) = l.take k ++ [q] ∧ l.getD k tl0 = q) := Lib.hid ⟨by rw [List.take_succ_eq_append_getElem hkl, hq], by rw [List.getD_eq_getElem?_getD, List.getElem?_eq_getElem hkl, hq]; rfl⟩
      rw [hq] at hx0
      clear hq
      obtain ⟨e, wy, of_⟩ := q
      have HC : Hid (∀ j u, [Value.int .i64 e, .int .i64 wy, .int .i64 of_][j]? = some u → wr.cell? ((ad.add (k * 3)).add j) = some u) := Lib.hid hx0
      clear hx0
      obtain ⟨b, hb⟩ : ∃ b, (decide (e ≤ p.Eps) && decide (nE ≤ e) && decide (wy ≤ p.De) && decide (dj ≤ wy) && decide (of_ ≤ p.Rho) && decide (nr ≤ of_)) = b := ⟨_, rfl⟩
      have hcs := good_cases e wy of_ nE p.Eps p.De dj nr p.Rho b hb
      have HKT : Hid (b = true → okT p ⟨e, wy, of_⟩) := Lib.hid (fun h => by
        rw [h] at hb
        simp only [Bool.and_eq_true, decide_eq_true_eq] at hb
        unfold okT
        dsimp only
        have := HE.out
        have := HQ.out
        omega)
      have HON := Lib.hid (And.intro hco (And.intro hon (And.intro hkl hk)))
      clear hb hkl hco hon
      rcases hcs with ⟨rfl, d1⟩ | ⟨rfl, d1, d2⟩ | ⟨rfl, d1, d2, d3⟩ | ⟨rfl, d1, d2, d3, d4⟩ | ⟨rfl, d1, d2, d3, d4, d5⟩ | ⟨rfl, d1, d2, d3, d4, d5, d6⟩ | ⟨rfl, d1, d2, d3, d4, d5, d6⟩
      rotate_right
      · have HKT' := Lib.hid (HKT.out rfl)
        clear HKT
        by_cases hk0 : k = 0
        · have hz : ((k : Int) == 0) = true := by rw [hk0]; rfl
          have HK0 := Lib.hid hk0
          obtain ⟨r1, hr1⟩ : ∃ t, tn + e = t := ⟨_, rfl⟩
          have hw6 : IntKind.i64.wrap (tn + e) = r1 := by
            rw [IntKind.wrap_i64]
            have := HKT'.out
            unfold okT at this
            have := HCK'.out
            have := HF'.out
            have := HE.out
            dsimp only at *
            omega
          have HR1 : Hid (r1 = now + p.Be + (l.getD 0 tl0).err) := Lib.hid (by have h0 := HTK2.out.2; rw [hk0] at h0; rw [h0, ← hr1]; have := HE.out; dsimp only; omega)
          clear hr1 hk0
          go_wp2_with (first
            | ((with_reducible refine gate_dst (N := 84) rfl ?_); refine load_cells rfl rfl (ad := ad.add (k * 3)) (cs := [.int .i64 e, .int .i64 wy, .int .i64 of_]) ?hx Try.underlying41 rfl (by kernel_rfl) HC.out ?_; (case hx => first | rfl | (go_simp; done) | (go_simp; rfl)))
            | ((with_reducible refine gate_dst (N := 84) rfl ?_); refine fr_sub H (n := 3) rfl rfl rfl (by repeat (first | exact At.head | apply At.tail)) Try.underlying41 rfl (by kernel_rfl) (by simp only [List.toList_toArray, List.drop_succ_cons, List.drop_zero, List.take_succ_cons, List.take_zero]; rfl) (by rfl) ?_)
            | ((with_reducible refine gate_dst (N := 15) rfl ?_); refine fr_new H (N := 15) rfl rfl (cs := #[.int .i64 0, .int .i64 0, .int .i64 0]) (t := 41) ?hr ?_; (case hr => first | (go_simp; done) | (go_simp; rfl)); intro g15 w15 H1; clear H; have H := H1; clear H1)
            | ((with_reducible refine gate_store (t := 41) (p := 15) rfl ?_); refine fr_put H rfl rfl rfl rfl rfl (by repeat (first | exact At.head | apply At.tail)) (by rfl) (by kernel_rfl) (by simp [Value.oneCell']) ?_; intro w15_ H1; clear H; have H := H1; clear H1)
            | ((with_reducible refine gate_dst (N := 86) rfl ?_); refine fr_get H rfl rfl rfl (by repeat (first | exact At.head | apply At.tail)) Try.underlying3 rfl (by simp only [List.getElem?_toArray, List.getElem?_cons_succ, List.getElem?_cons_zero]; rfl) ?_)
            | ((with_reducible refine gate_dst (N := 88) rfl ?_); refine fr_get H rfl rfl rfl (by repeat (first | exact At.head | apply At.tail)) Try.underlying3 rfl (by simp only [List.getElem?_toArray, List.getElem?_cons_succ, List.getElem?_cons_zero]; rfl) ?_)
            | ((with_reducible refine gate_dst (N := 92) rfl ?_); (try (refine gate_guard (by rfl) ?_; dsimp only)); refine fr_get H rfl rfl rfl (by repeat (first | exact At.head | apply At.tail)) Try.underlying3 rfl (by simp only [List.getElem?_toArray, List.getElem?_cons_succ, List.getElem?_cons_zero]; rfl) ?_)
            | ((with_reducible refine gate_dst (N := 94) rfl ?_); (try (refine gate_guard (by rfl) ?_; dsimp only)); refine fr_get H rfl rfl rfl (by repeat (first | exact At.head | apply At.tail)) Try.underlying3 rfl (by simp only [List.getElem?_toArray, List.getElem?_cons_succ, List.getElem?_cons_zero]; rfl) ?_)
            | ((with_reducible refine gate_dst (N := 100) rfl ?_); (try (refine gate_guard (by rfl) ?_; dsimp only)); refine fr_get H rfl rfl rfl (by repeat (first | exact At.head | apply At.tail)) Try.underlying3 rfl (by simp only [List.getElem?_toArray, List.getElem?_cons_succ, List.getElem?_cons_zero]; rfl) ?_)
            | ((with_reducible refine gate_dst (N := 102) rfl ?_); (try (refine gate_guard (by rfl) ?_; dsimp only)); refine fr_get H rfl rfl rfl (by repeat (first | exact At.head | apply At.tail)) Try.underlying3 rfl (by simp only [List.getElem?_toArray, List.getElem?_cons_succ, List.getElem?_cons_zero]; rfl) ?_)
            | ((with_reducible refine gate_dst (N := 107) rfl ?_); (try (refine gate_guard (by rfl) ?_; dsimp only)); refine fr_get H rfl rfl rfl (by repeat (first | exact At.head | apply At.tail)) Try.underlying3 rfl (by simp only [List.getElem?_toArray, List.getElem?_cons_succ, List.getElem?_cons_zero]; rfl) ?_)
            | ((with_reducible refine gate_dst (N := 109) rfl ?_); (try (refine gate_guard (by rfl) ?_; dsimp only)); refine fr_get H rfl rfl rfl (by repeat (first | exact At.head | apply At.tail)) Try.underlying3 rfl (by simp only [List.getElem?_toArray, List.getElem?_cons_succ, List.getElem?_cons_zero]; rfl) ?_)
            | ((with_reducible refine gate_dst (N := 111) rfl ?_); (try (refine gate_guard (by rfl) ?_; dsimp only)); refine fr_get H rfl rfl rfl (by repeat (first | exact At.head | apply At.tail)) Try.underlying3 rfl (by simp only [List.getElem?_toArray, List.getElem?_cons_succ, List.getElem?_cons_zero]; rfl) ?_)
            | ((with_reducible refine gate_dst (N := 117) rfl ?_); (try (refine gate_guard (by rfl) ?_; dsimp only)); refine fr_get H rfl rfl rfl (by repeat (first | exact At.head | apply At.tail)) Try.underlying3 rfl (by simp only [List.getElem?_toArray, List.getElem?_cons_succ, List.getElem?_cons_zero]; rfl) ?_)
            | ((with_reducible refine gate_dst (N := 119) rfl ?_); (try (refine gate_guard (by rfl) ?_; dsimp only)); refine fr_get H rfl rfl rfl (by repeat (first | exact At.head | apply At.tail)) Try.underlying3 rfl (by simp only [List.getElem?_toArray, List.getElem?_cons_succ, List.getElem?_cons_zero]; rfl) ?_)
            | ((with_reducible refine gate_dst (N := 124) rfl ?_); (try (refine gate_guard (by rfl) ?_; dsimp only)); refine fr_get H rfl rfl rfl (by repeat (first | exact At.head | apply At.tail)) Try.underlying3 rfl (by simp only [List.getElem?_toArray, List.getElem?_cons_succ, List.getElem?_cons_zero]; rfl) ?_)
            | ((with_reducible refine gate_dst (N := 126) rfl ?_); (try (refine gate_guard (by rfl) ?_; dsimp only)); refine fr_get H rfl rfl rfl (by repeat (first | exact At.head | apply At.tail)) Try.underlying3 rfl (by simp only [List.getElem?_toArray, List.getElem?_cons_succ, List.getElem?_cons_zero]; rfl) ?_)
            | ((with_reducible refine gate_dst (N := 134) rfl ?_); refine fr_get H rfl rfl rfl (by repeat (first | exact At.head | apply At.tail)) Try.underlying3 rfl (by simp only [List.getElem?_toArray, List.getElem?_cons_succ, List.getElem?_cons_zero]; rfl) ?_)
            | ((with_reducible refine gate_dst (N := 137) rfl ?_); refine fr_get H rfl rfl rfl (by repeat (first | exact At.head | apply At.tail)) Try.underlying3 rfl (by simp only [List.getElem?_toArray, List.getElem?_cons_succ, List.getElem?_cons_zero]; rfl) ?_)
            | ((with_reducible refine gate_store (t := 3) (p := 139) rfl ?_); refine fr_set H (u := .int .i64 _) rfl rfl rfl rfl rfl (by repeat (first | exact At.head | apply At.tail)) (Nat.le_of_ble_eq_true rfl) (by simp only [Value.cells, List.take_succ_cons, List.take_zero, List.drop_succ_cons, List.drop_zero, List.cons_append, List.nil_append, List.size_toArray, List.length_cons, List.length_nil, Nat.reduceAdd, List.append_nil, List.drop_nil, List.take_nil, List.toList_toArray]; rfl) (by kernel_rfl) (by simp [Value.cells, Value.oneCell']) ?_; intro w139_ H1; clear H; have H := H1; clear H1)
            | ((with_reducible refine gate_dst (N := 142) rfl ?_); refine fr_get H rfl rfl rfl (by repeat (first | exact At.head | apply At.tail)) Try.underlying3 rfl (by simp only [List.getElem?_toArray, List.getElem?_cons_succ, List.getElem?_cons_zero]; rfl) ?_)
            | ((with_reducible refine gate_dst (N := 145) rfl ?_); refine fr_get H rfl rfl rfl (by repeat (first | exact At.head | apply At.tail)) Try.underlying3 rfl (by simp only [List.getElem?_toArray, List.getElem?_cons_succ, List.getElem?_cons_zero]; rfl) ?_)
            | ((with_reducible refine gate_dst (N := 149) rfl ?_); refine fr_get H rfl rfl rfl (by repeat (first | exact At.head | apply At.tail)) Try.underlying3 rfl (by simp only [List.getElem?_toArray, List.getElem?_cons_succ, List.getElem?_cons_zero]; rfl) ?_)
            | ((with_reducible refine gate_dst (N := 152) rfl ?_); refine fr_get H rfl rfl rfl (by repeat (first | exact At.head | apply At.tail)) Try.underlying3 rfl (by simp only [List.getElem?_toArray, List.getElem?_cons_succ, List.getElem?_cons_zero]; rfl) ?_)
            | ((with_reducible refine gate_dst (N := 16) rfl ?_); refine fr_new H (N := 16) rfl rfl (cs := #[.int .i64 0, .int .i64 0]) (t := 25) ?hr ?_; (case hr => first | (go_simp; done) | (go_simp; rfl)); intro g16 w16 H1; clear H; have H := H1; clear H1)
            | ((with_reducible refine gate_store (t := 25) (p := 16) rfl ?_); refine fr_put H rfl rfl rfl rfl rfl (by repeat (first | exact At.head | apply At.tail)) (by rfl) (by kernel_rfl) (by simp [Value.oneCell']) ?_; intro w16_ H1; clear H; have H := H1; clear H1)
            | ((with_reducible refine gate_dst (N := 156) rfl ?_); refine fr_get H rfl rfl rfl (by repeat (first | exact At.head | apply At.tail)) Try.underlying32 rfl (by simp only [List.getElem?_toArray, List.getElem?_cons_succ, List.getElem?_cons_zero]; rfl) ?_)
            | ((with_reducible refine gate_dst (N := 158) rfl ?_); refine fr_sub H (n := 2) rfl rfl rfl (by repeat (first | exact At.head | apply At.tail)) Try.underlying25 rfl (by kernel_rfl) (by simp only [List.toList_toArray, List.drop_succ_cons, List.drop_zero, List.take_succ_cons, List.take_zero]; rfl) (by rfl) ?_)
            | ((with_reducible refine gate_dst (N := 161) rfl ?_); refine fr_get H rfl rfl rfl (by repeat (first | exact At.head | apply At.tail)) Try.underlying3 rfl (by simp only [List.getElem?_toArray, List.getElem?_cons_succ, List.getElem?_cons_zero]; rfl) ?_)
            | ((with_reducible refine gate_dst (N := 163) rfl ?_); refine fr_get H rfl rfl rfl (by repeat (first | exact At.head | apply At.tail)) Try.underlying3 rfl (by simp only [List.getElem?_toArray, List.getElem?_cons_succ, List.getElem?_cons_zero]; rfl) ?_)
            | ((with_reducible refine gate_dst (N := 166) rfl ?_); refine fr_get H rfl rfl rfl (by repeat (first | exact At.head | apply At.tail)) Try.underlying3 rfl (by simp only [List.getElem?_toArray, List.getElem?_cons_succ, List.getElem?_cons_zero]; rfl) ?_)
            | ((with_reducible refine gate_dst (N := 169) rfl ?_); refine fr_rowv H (N := 169) rfl rfl (fun K hK => by go_simp; exact hK.out) ?_; intro x169 w169 H1; clear H; have H := H1; clear H1)
            | ((with_reducible refine gate_store (t := 32) (p := 171) rfl ?_); refine fr_set H (u := .slice _ _ _) rfl rfl rfl rfl rfl (by repeat (first | exact At.head | apply At.tail)) (Nat.le_of_ble_eq_true rfl) (by simp only [Value.cells, List.take_succ_cons, List.take_zero, List.drop_succ_cons, List.drop_zero, List.cons_append, List.nil_append, List.size_toArray, List.length_cons, List.length_nil, Nat.reduceAdd, List.append_nil, List.drop_nil, List.take_nil, List.toList_toArray]; rfl) (by kernel_rfl) (by simp [Value.cells, Value.oneCell']) ?_; intro w171_ H1; clear H; have H := H1; clear H1)
            | fail)
          refine ⟨⟨k + 1, Ao, on, co, r1, by omega, rfl, HON.out.1, by have := HON.out.2.1; omega, Lib.hid (by have := HLEN.out; have := HK0.out; rw [rightsK_len] at *; omega), Lib.hid (fun q hm => by
            rw [HTK2.out.1] at hm
            rcases List.mem_append.1 hm with hm | hm
            · exact HOK.out q hm
            · rw [List.mem_singleton.1 hm]; exact HKT'.out), Lib.hid (fun _ => HR1.out), (H.drop).imp (fun W h => ⟨h.1, ?_⟩)⟩, by simp [intOf]; omega⟩
          have := h.2
          rw [HK0.out] at this ⊢
          exact this
        · have hz : ((k : Int) == 0) = false := by simpa using hk0
          obtain ⟨a1, h1⟩ : ∃ t, now + e = t := ⟨_, rfl⟩
          obtain ⟨a2, h2⟩ : ∃ t, a1 - p.Eps = t := ⟨_, rfl⟩
          obtain ⟨a3, h3⟩ : ∃ t, a1 + p.Eps = t := ⟨_, rfl⟩
          obtain ⟨a4, h4⟩ : ∃ t, p.Be - wy = t := ⟨_, rfl⟩
          obtain ⟨a5, h5⟩ : ∃ t, a4 + of_ = t := ⟨_, rfl⟩
          have HA := Lib.hid (And.intro h1 (And.intro h2 (And.intro h3 (And.intro h4 h5))))
          have hbd : -1125899906842624 - 1099511627776 * 8 ≤ a1 - p.Eps ∧ a1 + p.Eps ≤ 1125899906842624 + 1099511627776 * 8 ∧ 0 ≤ p.Eps ∧ p.Eps ≤ 1099511627776 ∧ -1099511627776 * 4 ≤ a4 ∧ a4 ≤ 1099511627776 * 4 ∧ -1099511627776 ≤ of_ ∧ of_ ≤ 1099511627776 := by
            have := HKT'.out
            unfold okT at this
            have := HCK'.out
            have := HF'.out
            dsimp only at *
            omega
          have hw6 : IntKind.i64.wrap (now + e) = a1 := by rw [IntKind.wrap_i64]; omega
          have hw7 : IntKind.i64.wrap (a1 - p.Eps) = a2 := by rw [IntKind.wrap_i64]; omega
          have hw8 : IntKind.i64.wrap (a1 + p.Eps) = a3 := by rw [IntKind.wrap_i64]; omega
          have hw9 : IntKind.i64.wrap (p.Be - wy) = a4 := by rw [IntKind.wrap_i64]; omega
          have hw10 : IntKind.i64.wrap (a4 + of_) = a5 := by rw [IntKind.wrap_i64]; omega
          have HMB := Lib.hid (show (on + 1) * 128 ≤ 140737488355328 ∧ on + 1 ≤ maxLen by have := HON.out; have := HCK'.out; have := HF'.out; have := HN.out; unfold maxLen; omega)
          have HX : Hid (encH (rightH p now k (l.getD k tl0)) = [.int .i64 1, .int .i64 k, .int .i64 0, .int .i64 0, .int .i64 0, .int .i64 0, .bool false, .bool true, .int .i64 a2, .int .i64 a3, .int .i64 0, .int .i64 0, .int .i64 0, .slice none 0 0, .int .i64 a5]) := Lib.hid (by
            rw [HTK2.out.2]
            unfold rightH encH
            dsimp only
            obtain ⟨e1, e2, e3, e4, e5⟩ := HA.out
            rw [e1, e2, e3, e4, e5])
          have HK0 := Lib.hid hk0
          clear h1 h2 h3 h4 h5 hbd hk0
          go_wp2_with (first
            | ((with_reducible refine gate_dst (N := 84) rfl ?_); refine load_cells rfl rfl (ad := ad.add (k * 3)) (cs := [.int .i64 e, .int .i64 wy, .int .i64 of_]) ?hx Try.underlying41 rfl (by kernel_rfl) HC.out ?_; (case hx => first | rfl | (go_simp; done) | (go_simp; rfl)))
            | (at_builtin; refine wpList_append_own_at _ rfl _ _ 32 rfl w.heap.size 45 i0 _ 15 128 Try.underlying32 hi0 hz0 hz1 hz2 rfl (by decide) (.slice Ao on co) on (flH (rightsK p now l k)) rfl H.now.2 ⟨x169, 0, none⟩ 1 1 [.int .i64 1, .int .i64 k, .int .i64 0, .int .i64 0, .int .i64 0, .int .i64 0, .bool false, .bool true, .int .i64 a2, .int .i64 a3, .int .i64 0, .int .i64 0, .int .i64 0, .slice none 0 0, .int .i64 a5] rfl rfl ?hn ?h1 HMB.out.2 HMB.out.1 H.chg.size ?_; (case hn => exact new_cells (H.of At.head)); (case h1 => exact encH_one ⟨1, k, 0, 0, 0, 0, false, true, a2, a3, 0, 0, 0, none, 0, 0, a5⟩); intro v2 w2 hown hgrow hnil hat; obtain ⟨g4, cap, rfl, hcap, hob⟩ := own_shape1 hown (Nat.succ_pos _); rw [hob] at hat; have H1 := Fr.appendedOwn H.drop (fun k h => h) HR0.out H.now.2 (hne_list H.drop H.now.2 (by intro q hq; simp only [List.mem_cons, List.not_mem_nil, or_false] at hq; rcases hq with rfl | rfl | rfl | rfl | rfl <;> exact ⟨_, _, rfl, by decide⟩)) hgrow hown hat; have HC4 := Lib.hid hcap; clear hown hgrow hnil hat hob hcap H; have H := H1; clear H1)
            | ((with_reducible refine gate_dst (N := 84) rfl ?_); refine fr_sub H (n := 3) rfl rfl rfl (by repeat (first | exact At.head | apply At.tail)) Try.underlying41 rfl (by kernel_rfl) (by simp only [List.toList_toArray, List.drop_succ_cons, List.drop_zero, List.take_succ_cons, List.take_zero]; rfl) (by rfl) ?_)
            | ((with_reducible refine gate_dst (N := 15) rfl ?_); refine fr_new H (N := 15) rfl rfl (cs := #[.int .i64 0, .int .i64 0, .int .i64 0]) (t := 41) ?hr ?_; (case hr => first | (go_simp; done) | (go_simp; rfl)); intro g15 w15 H1; clear H; have H := H1; clear H1)
            | ((with_reducible refine gate_store (t := 41) (p := 15) rfl ?_); refine fr_put H rfl rfl rfl rfl rfl (by repeat (first | exact At.head | apply At.tail)) (by rfl) (by kernel_rfl) (by simp [Value.oneCell']) ?_; intro w15_ H1; clear H; have H := H1; clear H1)
            | ((with_reducible refine gate_dst (N := 86) rfl ?_); refine fr_get H rfl rfl rfl (by repeat (first | exact At.head | apply At.tail)) Try.underlying3 rfl (by simp only [List.getElem?_toArray, List.getElem?_cons_succ, List.getElem?_cons_zero]; rfl) ?_)
            | ((with_reducible refine gate_dst (N := 88) rfl ?_); refine fr_get H rfl rfl rfl (by repeat (first | exact At.head | apply At.tail)) Try.underlying3 rfl (by simp only [List.getElem?_toArray, List.getElem?_cons_succ, List.getElem?_cons_zero]; rfl) ?_)
            | ((with_reducible refine gate_dst (N := 92) rfl ?_); (try (refine gate_guard (by rfl) ?_; dsimp only)); refine fr_get H rfl rfl rfl (by repeat (first | exact At.head | apply At.tail)) Try.underlying3 rfl (by simp only [List.getElem?_toArray, List.getElem?_cons_succ, List.getElem?_cons_zero]; rfl) ?_)
            | ((with_reducible refine gate_dst (N := 94) rfl ?_); (try (refine gate_guard (by rfl) ?_; dsimp only)); refine fr_get H rfl rfl rfl (by repeat (first | exact At.head | apply At.tail)) Try.underlying3 rfl (by simp only [List.getElem?_toArray, List.getElem?_cons_succ, List.getElem?_cons_zero]; rfl) ?_)
            | ((with_reducible refine gate_dst (N := 100) rfl ?_); (try (refine gate_guard (by rfl) ?_; dsimp only)); refine fr_get H rfl rfl rfl (by repeat (first | exact At.head | apply At.tail)) Try.underlying3 rfl (by simp only [List.getElem?_toArray, List.getElem?_cons_succ, List.getElem?_cons_zero]; rfl) ?_)
            | ((with_reducible refine gate_dst (N := 102) rfl ?_); (try (refine gate_guard (by rfl) ?_; dsimp only)); refine fr_get H rfl rfl rfl (by repeat (first | exact At.head | apply At.tail)) Try.underlying3 rfl (by simp only [List.getElem?_toArray, List.getElem?_cons_succ, List.getElem?_cons_zero]; rfl) ?_)
            | ((with_reducible refine gate_dst (N := 107) rfl ?_); (try (refine gate_guard (by rfl) ?_; dsimp only)); refine fr_get H rfl rfl rfl (by repeat (first | exact At.head | apply At.tail)) Try.underlying3 rfl (by simp only [List.getElem?_toArray, List.getElem?_cons_succ, List.getElem?_cons_zero]; rfl) ?_)
            | ((with_reducible refine gate_dst (N := 109) rfl ?_); (try (refine gate_guard (by rfl) ?_; dsimp only)); refine fr_get H rfl rfl rfl (by repeat (first | exact At.head | apply At.tail)) Try.underlying3 rfl (by simp only [List.getElem?_toArray, List.getElem?_cons_succ, List.getElem?_cons_zero]; rfl) ?_)
            | ((with_reducible refine gate_dst (N := 111) rfl ?_); (try (refine gate_guard (by rfl) ?_; dsimp only)); refine fr_get H rfl rfl rfl (by repeat (first | exact At.head | apply At.tail)) Try.underlying3 rfl (by simp only [List.getElem?_toArray, List.getElem?_cons_succ, List.getElem?_cons_zero]; rfl) ?_)
            | ((with_reducible refine gate_dst (N := 117) rfl ?_); (try (refine gate_guard (by rfl) ?_; dsimp only)); refine fr_get H rfl rfl rfl (by repeat (first | exact At.head | apply At.tail)) Try.underlying3 rfl (by simp only [List.getElem?_toArray, List.getElem?_cons_succ, List.getElem?_cons_zero]; rfl) ?_)
            | ((with_reducible refine gate_dst (N := 119) rfl ?_); (try (refine gate_guard (by rfl) ?_; dsimp only)); refine fr_get H rfl rfl rfl (by repeat (first | exact At.head | apply At.tail)) Try.underlying3 rfl (by simp only [List.getElem?_toArray, List.getElem?_cons_succ, List.getElem?_cons_zero]; rfl) ?_)
            | ((with_reducible refine gate_dst (N := 124) rfl ?_); (try (refine gate_guard (by rfl) ?_; dsimp only)); refine fr_get H rfl rfl rfl (by repeat (first | exact At.head | apply At.tail)) Try.underlying3 rfl (by simp only [List.getElem?_toArray, List.getElem?_cons_succ, List.getElem?_cons_zero]; rfl) ?_)
            | ((with_reducible refine gate_dst (N := 126) rfl ?_); (try (refine gate_guard (by rfl) ?_; dsimp only)); refine fr_get H rfl rfl rfl (by repeat (first | exact At.head | apply At.tail)) Try.underlying3 rfl (by simp only [List.getElem?_toArray, List.getElem?_cons_succ, List.getElem?_cons_zero]; rfl) ?_)
            | ((with_reducible refine gate_dst (N := 134) rfl ?_); refine fr_get H rfl rfl rfl (by repeat (first | exact At.head | apply At.tail)) Try.underlying3 rfl (by simp only [List.getElem?_toArray, List.getElem?_cons_succ, List.getElem?_cons_zero]; rfl) ?_)
            | ((with_reducible refine gate_dst (N := 137) rfl ?_); refine fr_get H rfl rfl rfl (by repeat (first | exact At.head | apply At.tail)) Try.underlying3 rfl (by simp only [List.getElem?_toArray, List.getElem?_cons_succ, List.getElem?_cons_zero]; rfl) ?_)
            | ((with_reducible refine gate_store (t := 3) (p := 139) rfl ?_); refine fr_set H (u := .int .i64 _) rfl rfl rfl rfl rfl (by repeat (first | exact At.head | apply At.tail)) (Nat.le_of_ble_eq_true rfl) (by simp only [Value.cells, List.take_succ_cons, List.take_zero, List.drop_succ_cons, List.drop_zero, List.cons_append, List.nil_append, List.size_toArray, List.length_cons, List.length_nil, Nat.reduceAdd, List.append_nil, List.drop_nil, List.take_nil, List.toList_toArray]; rfl) (by kernel_rfl) (by simp [Value.cells, Value.oneCell']) ?_; intro w139_ H1; clear H; have H := H1; clear H1)
            | ((with_reducible refine gate_dst (N := 142) rfl ?_); refine fr_get H rfl rfl rfl (by repeat (first | exact At.head | apply At.tail)) Try.underlying3 rfl (by simp only [List.getElem?_toArray, List.getElem?_cons_succ, List.getElem?_cons_zero]; rfl) ?_)
            | ((with_reducible refine gate_dst (N := 145) rfl ?_); refine fr_get H rfl rfl rfl (by repeat (first | exact At.head | apply At.tail)) Try.underlying3 rfl (by simp only [List.getElem?_toArray, List.getElem?_cons_succ, List.getElem?_cons_zero]; rfl) ?_)
            | ((with_reducible refine gate_dst (N := 149) rfl ?_); refine fr_get H rfl rfl rfl (by repeat (first | exact At.head | apply At.tail)) Try.underlying3 rfl (by simp only [List.getElem?_toArray, List.getElem?_cons_succ, List.getElem?_cons_zero]; rfl) ?_)
            | ((with_reducible refine gate_dst (N := 152) rfl ?_); refine fr_get H rfl rfl rfl (by repeat (first | exact At.head | apply At.tail)) Try.underlying3 rfl (by simp only [List.getElem?_toArray, List.getElem?_cons_succ, List.getElem?_cons_zero]; rfl) ?_)
            | ((with_reducible refine gate_dst (N := 16) rfl ?_); refine fr_new H (N := 16) rfl rfl (cs := #[.int .i64 0, .int .i64 0]) (t := 25) ?hr ?_; (case hr => first | (go_simp; done) | (go_simp; rfl)); intro g16 w16 H1; clear H; have H := H1; clear H1)
            | ((with_reducible refine gate_store (t := 25) (p := 16) rfl ?_); refine fr_put H rfl rfl rfl rfl rfl (by repeat (first | exact At.head | apply At.tail)) (by rfl) (by kernel_rfl) (by simp [Value.oneCell']) ?_; intro w16_ H1; clear H; have H := H1; clear H1)
            | ((with_reducible refine gate_dst (N := 156) rfl ?_); refine fr_get H rfl rfl rfl (by repeat (first | exact At.head | apply At.tail)) Try.underlying32 rfl (by simp only [List.getElem?_toArray, List.getElem?_cons_succ, List.getElem?_cons_zero]; rfl) ?_)
            | ((with_reducible refine gate_dst (N := 158) rfl ?_); refine fr_sub H (n := 2) rfl rfl rfl (by repeat (first | exact At.head | apply At.tail)) Try.underlying25 rfl (by kernel_rfl) (by simp only [List.toList_toArray, List.drop_succ_cons, List.drop_zero, List.take_succ_cons, List.take_zero]; rfl) (by rfl) ?_)
            | ((with_reducible refine gate_dst (N := 161) rfl ?_); refine fr_get H rfl rfl rfl (by repeat (first | exact At.head | apply At.tail)) Try.underlying3 rfl (by simp only [List.getElem?_toArray, List.getElem?_cons_succ, List.getElem?_cons_zero]; rfl) ?_)
            | ((with_reducible refine gate_dst (N := 163) rfl ?_); refine fr_get H rfl rfl rfl (by repeat (first | exact At.head | apply At.tail)) Try.underlying3 rfl (by simp only [List.getElem?_toArray, List.getElem?_cons_succ, List.getElem?_cons_zero]; rfl) ?_)
            | ((with_reducible refine gate_dst (N := 166) rfl ?_); refine fr_get H rfl rfl rfl (by repeat (first | exact At.head | apply At.tail)) Try.underlying3 rfl (by simp only [List.getElem?_toArray, List.getElem?_cons_succ, List.getElem?_cons_zero]; rfl) ?_)
            | ((with_reducible refine gate_dst (N := 169) rfl ?_); refine fr_rowv H (N := 169) rfl rfl (fun K hK => by go_simp; exact hK.out) ?_; intro x169 w169 H1; clear H; have H := H1; clear H1)
            | ((with_reducible refine gate_store (t := 32) (p := 171) rfl ?_); refine fr_set H (u := .slice _ _ _) rfl rfl rfl rfl rfl (by repeat (first | exact At.head | apply At.tail)) (Nat.le_of_ble_eq_true rfl) (by simp only [Value.cells, List.take_succ_cons, List.take_zero, List.drop_succ_cons, List.drop_zero, List.cons_append, List.nil_append, List.size_toArray, List.length_cons, List.length_nil, Nat.reduceAdd, List.append_nil, List.drop_nil, List.take_nil, List.toList_toArray]; rfl) (by kernel_rfl) (by simp [Value.cells, Value.oneCell']) ?_; intro w171_ H1; clear H; have H := H1; clear H1)
            | fail)
          refine ⟨⟨k + 1, some ⟨g4, 0, none⟩, on + 1, cap, rd0, by omega, rfl, HC4.out, by have := HON.out.2.1; omega, Lib.hid (by have := HLEN.out; rw [rightsK_len] at this ⊢; have := HK0.out; omega), Lib.hid (fun q hm => by
            rw [HTK2.out.1] at hm
            rcases List.mem_append.1 hm with hm | hm
            · exact HOK.out q hm
            · rw [List.mem_singleton.1 hm]; exact HKT'.out), Lib.hid (fun _ => HRD.out (by have := HK0.out; omega)), (H.drop.drop).imp (fun W h => ⟨h.1, ?_⟩)⟩, by simp [intOf]; omega⟩
          rw [rightsK_succ p now l k (by have := HK0.out; omega), flH_snoc, HX.out]
          exact h.2
      all_goals
        go_wp2_with (first
          | ((with_reducible refine gate_dst (N := 84) rfl ?_); refine load_cells rfl rfl (ad := ad.add (k * 3)) (cs := [.int .i64 e, .int .i64 wy, .int .i64 of_]) ?hx Try.underlying41 rfl (by kernel_rfl) HC.out ?_; (case hx => first | rfl | (go_simp; done) | (go_simp; rfl)))
          | ((with_reducible refine gate_dst (N := 84) rfl ?_); refine fr_sub H (n := 3) rfl rfl rfl (by repeat (first | exact At.head | apply At.tail)) Try.underlying41 rfl (by kernel_rfl) (by simp only [List.toList_toArray, List.drop_succ_cons, List.drop_zero, List.take_succ_cons, List.take_zero]; rfl) (by rfl) ?_)
          | ((with_reducible refine gate_dst (N := 15) rfl ?_); refine fr_new H (N := 15) rfl rfl (cs := #[.int .i64 0, .int .i64 0, .int .i64 0]) (t := 41) ?hr ?_; (case hr => first | (go_simp; done) | (go_simp; rfl)); intro g15 w15 H1; clear H; have H := H1; clear H1)
          | ((with_reducible refine gate_store (t := 41) (p := 15) rfl ?_); refine fr_put H rfl rfl rfl rfl rfl (by repeat (first | exact At.head | apply At.tail)) (by rfl) (by kernel_rfl) (by simp [Value.oneCell']) ?_; intro w15_ H1; clear H; have H := H1; clear H1)
          | ((with_reducible refine gate_dst (N := 86) rfl ?_); refine fr_get H rfl rfl rfl (by repeat (first | exact At.head | apply At.tail)) Try.underlying3 rfl (by simp only [List.getElem?_toArray, List.getElem?_cons_succ, List.getElem?_cons_zero]; rfl) ?_)
          | ((with_reducible refine gate_dst (N := 88) rfl ?_); refine fr_get H rfl rfl rfl (by repeat (first | exact At.head | apply At.tail)) Try.underlying3 rfl (by simp only [List.getElem?_toArray, List.getElem?_cons_succ, List.getElem?_cons_zero]; rfl) ?_)
          | ((with_reducible refine gate_dst (N := 92) rfl ?_); (try (refine gate_guard (by rfl) ?_; dsimp only)); refine fr_get H rfl rfl rfl (by repeat (first | exact At.head | apply At.tail)) Try.underlying3 rfl (by simp only [List.getElem?_toArray, List.getElem?_cons_succ, List.getElem?_cons_zero]; rfl) ?_)
          | ((with_reducible refine gate_dst (N := 94) rfl ?_); (try (refine gate_guard (by rfl) ?_; dsimp only)); refine fr_get H rfl rfl rfl (by repeat (first | exact At.head | apply At.tail)) Try.underlying3 rfl (by simp only [List.getElem?_toArray, List.getElem?_cons_succ, List.getElem?_cons_zero]; rfl) ?_)
          | ((with_reducible refine gate_dst (N := 100) rfl ?_); (try (refine gate_guard (by rfl) ?_; dsimp only)); refine fr_get H rfl rfl rfl (by repeat (first | exact At.head | apply At.tail)) Try.underlying3 rfl (by simp only [List.getElem?_toArray, List.getElem?_cons_succ, List.getElem?_cons_zero]; rfl) ?_)
          | ((with_reducible refine gate_dst (N := 102) rfl ?_); (try (refine gate_guard (by rfl) ?_; dsimp only)); refine fr_get H rfl rfl rfl (by repeat (first | exact At.head | apply At.tail)) Try.underlying3 rfl (by simp only [List.getElem?_toArray, List.getElem?_cons_succ, List.getElem?_cons_zero]; rfl) ?_)
          | ((with_reducible refine gate_dst (N := 107) rfl ?_); (try (refine gate_guard (by rfl) ?_; dsimp only)); refine fr_get H rfl rfl rfl (by repeat (first | exact At.head | apply At.tail)) Try.underlying3 rfl (by simp only [List.getElem?_toArray, List.getElem?_cons_succ, List.getElem?_cons_zero]; rfl) ?_)
          | ((with_reducible refine gate_dst (N := 109) rfl ?_); (try (refine gate_guard (by rfl) ?_; dsimp only)); refine fr_get H rfl rfl rfl (by repeat (first | exact At.head | apply At.tail)) Try.underlying3 rfl (by simp only [List.getElem?_toArray, List.getElem?_cons_succ, List.getElem?_cons_zero]; rfl) ?_)
          | ((with_reducible refine gate_dst (N := 111) rfl ?_); (try (refine gate_guard (by rfl) ?_; dsimp only)); refine fr_get H rfl rfl rfl (by repeat (first | exact At.head | apply At.tail)) Try.underlying3 rfl (by simp only [List.getElem?_toArray, List.getElem?_cons_succ, List.getElem?_cons_zero]; rfl) ?_)
          | ((with_reducible refine gate_dst (N := 117) rfl ?_); (try (refine gate_guard (by rfl) ?_; dsimp only)); refine fr_get H rfl rfl rfl (by repeat (first | exact At.head | apply At.tail)) Try.underlying3 rfl (by simp only [List.getElem?_toArray, List.getElem?_cons_succ, List.getElem?_cons_zero]; rfl) ?_)
          | ((with_reducible refine gate_dst (N := 119) rfl ?_); (try (refine gate_guard (by rfl) ?_; dsimp only)); refine fr_get H rfl rfl rfl (by repeat (first | exact At.head | apply At.tail)) Try.underlying3 rfl (by simp only [List.getElem?_toArray, List.getElem?_cons_succ, List.getElem?_cons_zero]; rfl) ?_)
          | ((with_reducible refine gate_dst (N := 124) rfl ?_); (try (refine gate_guard (by rfl) ?_; dsimp only)); refine fr_get H rfl rfl rfl (by repeat (first | exact At.head | apply At.tail)) Try.underlying3 rfl (by simp only [List.getElem?_toArray, List.getElem?_cons_succ, List.getElem?_cons_zero]; rfl) ?_)
          | ((with_reducible refine gate_dst (N := 126) rfl ?_); (try (refine gate_guard (by rfl) ?_; dsimp only)); refine fr_get H rfl rfl rfl (by repeat (first | exact At.head | apply At.tail)) Try.underlying3 rfl (by simp only [List.getElem?_toArray, List.getElem?_cons_succ, List.getElem?_cons_zero]; rfl) ?_)
          | fail)
        go_ret
        exact ⟨rfl, H.below⟩
    · obtain rfl : k = nl := by omega
      have hkp : 0 < k := by have := HCK'.out; have := HF'.out; have := HN.out; omega
      obtain rfl := HRD.out hkp
      obtain ⟨rd0, hrd0⟩ : ∃ t, now + p.Be + (l.getD 0 tl0).err = t := ⟨_, rfl⟩
      have HRD0 := Lib.hid hrd0
      rw [hrd0] at H
      have HOK2 : Hid (∀ q ∈ l, okT p q) := Lib.hid (fun q hq => HOK.out q (by rw [List.take_of_length_le (by rw [HN.out.2.1]; exact Nat.le_refl _)]; exact hq))
      have HON0 := Lib.hid (And.intro hco (And.intro hon HLEN.out))
      clear HRD HOK hrd0 hkp hco hon
      go_wp2_with (first
        | fail)
      have hk16 : k ≤ 16 := by have := HCK'.out; have := HF'.out; have := HN.out; omega
      go_loopw [175] (fun v175 wr2 => ∃ (j : Nat) (Ao : Option Addr) (on co : Nat), j ≤ nz ∧ v175 = .int .i64 j ∧ on ≤ co ∧ on ≤ 16 + j ∧ Hid ((rightsK p now l k ++ liesK k z j).length = on) ∧ Fr (fun _ => False) (fun _ => False) w wr2 [(g13, .cells #[.int .i64 tk, .slice Ao on co, .bool true, .int .i64 rd0, .bool false, .slice none 0 0] 38 (0, 0)), (g7, .cells #[.int .i64 slo, .int .i64 shi, .int .i64 stime, .bool sset, .int .i64 sheld, .int .i64 shops, .bool sgood, .slice As ns cs, .int .i64 sst, .int .i64 ssn, .int .i64 slife] 30 (0, 0)), (g6, .cells #[.int .i64 p.N, .int .i64 p.F, .int .i64 p.D, .int .i64 p.Be, .int .i64 p.Rho, .int .i64 p.De, .int .i64 p.Ji, .int .i64 p.Eps, .int .i64 p.Mu, .int .i64 p.Ho, .int .i64 p.Pu, .int .i64 p.Se] 23 (0, 0))] (fun W => pHo Ae l Al z As stab W ∧ W.ownsRow w.heap.size 45 15 (.slice Ao on co) on (flH (rightsK p now l k ++ liesK k z j)))) (fun v175 _ => nz - (intOf v175).toNat)
      case atStart => exact ⟨0, Ao, on, co, by omega, rfl, HON0.out.1, by have := HON0.out.2.1; omega, Lib.hid (by rw [show liesK k z 0 = [] from rfl, List.append_nil]; exact HON0.out.2.2), H.imp (fun W h => ⟨h.1, by rw [show liesK k z 0 = [] from rfl, List.append_nil]; exact h.2⟩)⟩
      case round =>
        clear H HON0 HLEN
        obtain ⟨j, Ao, on, co, hj, rfl, hco, hon, HLEN2, H⟩ := hrel
        by_cases hjt : j < nz
        · have hjl : j < z.length := by rw [HN.out.2.2]; exact hjt
          have hj1 : (j : Int) < (nz : Int) := by omega
          have hs1 : -9223372036854775808 ≤ (j : Int) + 1 := by omega
          have hs2 : (j : Int) + 1 ≤ 9223372036854775807 := by omega
          obtain ⟨ad2, e2, hx2⟩ := H.now.1.2.1 j hjl
          cases e2
          obtain ⟨q, hq⟩ : ∃ q, z[j] = q := ⟨_, rfl⟩
          have HTJ : Hid (liesK k z (j + 1) = liesK k z j ++ [{ q with frm := (k : Int) + j }]) := Lib.hid (by rw [liesK_succ k z j hjl, hq])
          rw [hq] at hx2
          clear hq
          obtain ⟨kind, frm, mlo, mhi, mheld, mhops, mgood, mref, mslo, mshi, pulse, mst, msn, Am, nm, cm, age⟩ := q
          have HC2 : Hid (∀ i u, [.int .i64 kind, .int .i64 frm, .int .i64 mlo, .int .i64 mhi, .int .i64 mheld, .int .i64 mhops, .bool mgood, .bool mref, .int .i64 mslo, .int .i64 mshi, .int .i64 pulse, .int .i64 mst, .int .i64 msn, .slice Am nm cm, .int .i64 age][i]? = some u → wr.cell? ((ad2.add (j * 15)).add i) = some u) := Lib.hid hx2
          obtain ⟨fr2, hfr⟩ : ∃ t, (k : Int) + j = t := ⟨_, rfl⟩
          have hw6 : IntKind.i64.wrap ((k : Int) + j) = fr2 := by rw [IntKind.wrap_i64]; have := HLA'.out; have := HN.out; omega
          have HX : Hid (encH ({ (⟨kind, frm, mlo, mhi, mheld, mhops, mgood, mref, mslo, mshi, pulse, mst, msn, Am, nm, cm, age⟩ : Hd) with frm := (k : Int) + j }) = [.int .i64 kind, .int .i64 fr2, .int .i64 mlo, .int .i64 mhi, .int .i64 mheld, .int .i64 mhops, .bool mgood, .bool mref, .int .i64 mslo, .int .i64 mshi, .int .i64 pulse, .int .i64 mst, .int .i64 msn, .slice Am nm cm, .int .i64 age]) := Lib.hid (by unfold encH; dsimp only; rw [hfr])
          have HMB := Lib.hid (show (on + 1) * 128 ≤ 140737488355328 ∧ on + 1 ≤ maxLen by have := HLA'.out; have := HN.out; unfold maxLen; omega)
          have HON := Lib.hid (And.intro hco hon)
          clear hx2 hfr hjl hco hon
          go_wp2_with (first
            | ((with_reducible refine gate_dst (N := 179) rfl ?_); refine load_cells rfl rfl (ad := ad2.add (j * 15)) (cs := [.int .i64 kind, .int .i64 frm, .int .i64 mlo, .int .i64 mhi, .int .i64 mheld, .int .i64 mhops, .bool mgood, .bool mref, .int .i64 mslo, .int .i64 mshi, .int .i64 pulse, .int .i64 mst, .int .i64 msn, .slice Am nm cm, .int .i64 age]) ?hx Try.underlying45 rfl (by kernel_rfl) HC2.out ?_; (case hx => first | rfl | (go_simp; done) | (go_simp; rfl)))
            | (at_builtin; refine wpList_append_own_at _ rfl _ _ 32 rfl w.heap.size 45 i0 _ 15 128 Try.underlying32 hi0 hz0 hz1 hz2 rfl (by decide) (.slice Ao on co) on (flH (rightsK p now l k ++ liesK k z j)) rfl H.now.2 ⟨x189, 0, none⟩ 1 1 [.int .i64 kind, .int .i64 fr2, .int .i64 mlo, .int .i64 mhi, .int .i64 mheld, .int .i64 mhops, .bool mgood, .bool mref, .int .i64 mslo, .int .i64 mshi, .int .i64 pulse, .int .i64 mst, .int .i64 msn, .slice Am nm cm, .int .i64 age] rfl rfl ?hn ?h1 HMB.out.2 HMB.out.1 H.chg.size ?_; (case hn => exact new_cells (H.of At.head)); (case h1 => exact encH_one ⟨kind, fr2, mlo, mhi, mheld, mhops, mgood, mref, mslo, mshi, pulse, mst, msn, Am, nm, cm, age⟩); intro v2 w2 hown hgrow hnil hat; obtain ⟨g4, cap, rfl, hcap, hob⟩ := own_shape1 hown (Nat.succ_pos _); rw [hob] at hat; have H1 := Fr.appendedOwn H.drop.drop (fun k h => h) HR0.out H.now.2 (hne_list H.drop.drop H.now.2 (by intro q hq; simp only [List.mem_cons, List.not_mem_nil, or_false] at hq; rcases hq with rfl | rfl | rfl <;> exact ⟨_, _, rfl, by decide⟩)) hgrow hown hat; have HC4 := Lib.hid hcap; clear hown hgrow hnil hat hob hcap H; have H := H1; clear H1)
            | ((with_reducible refine gate_dst (N := 179) rfl ?_); refine fr_sub H (n := 15) rfl rfl rfl (by repeat (first | exact At.head | apply At.tail)) Try.underlying45 rfl (by kernel_rfl) (by simp only [List.toList_toArray, List.drop_succ_cons, List.drop_zero, List.take_succ_cons, List.take_zero]; rfl) (by rfl) ?_)
            | ((with_reducible refine gate_dst (N := 18) rfl ?_); refine fr_new H (N := 18) rfl rfl (cs := #[.int .i64 0, .int .i64 0, .int .i64 0, .int .i64 0, .int .i64 0, .int .i64 0, .bool false, .bool false, .int .i64 0, .int .i64 0, .int .i64 0, .int .i64 0, .int .i64 0, .slice none 0 0, .int .i64 0]) (t := 45) ?hr ?_; (case hr => first | (go_simp; done) | (go_simp; rfl)); intro g18 w18 H1; clear H; have H := H1; clear H1)
            | ((with_reducible refine gate_store (t := 45) (p := 18) rfl ?_); refine fr_put H rfl rfl rfl rfl rfl (by repeat (first | exact At.head | apply At.tail)) (by rfl) (by kernel_rfl) (by simp [Value.oneCell']) ?_; intro w18_ H1; clear H; have H := H1; clear H1)
            | ((with_reducible refine gate_store (t := 3) (p := 185) rfl ?_); refine fr_set H (u := .int .i64 _) rfl rfl rfl rfl rfl (by repeat (first | exact At.head | apply At.tail)) (Nat.le_of_ble_eq_true rfl) (by simp only [Value.cells, List.take_succ_cons, List.take_zero, List.drop_succ_cons, List.drop_zero, List.cons_append, List.nil_append, List.size_toArray, List.length_cons, List.length_nil, Nat.reduceAdd, List.append_nil, List.drop_nil, List.take_nil, List.toList_toArray]; rfl) (by kernel_rfl) (by simp [Value.cells, Value.oneCell']) ?_; intro w185_ H1; clear H; have H := H1; clear H1)
            | ((with_reducible refine gate_dst (N := 187) rfl ?_); refine fr_get H rfl rfl rfl (by repeat (first | exact At.head | apply At.tail)) Try.underlying32 rfl (by simp only [List.getElem?_toArray, List.getElem?_cons_succ, List.getElem?_cons_zero]; rfl) ?_)
            | ((with_reducible refine gate_dst (N := 188) rfl ?_); refine fr_sub H (n := 15) rfl rfl rfl (by repeat (first | exact At.head | apply At.tail)) Try.underlying45 rfl (by kernel_rfl) (by simp only [List.toList_toArray, List.drop_succ_cons, List.drop_zero, List.take_succ_cons, List.take_zero]; rfl) (by rfl) ?_)
            | ((with_reducible refine gate_dst (N := 189) rfl ?_); refine fr_rowv H (N := 189) rfl rfl (fun K hK => by go_simp; exact hK.out) ?_; intro x189 w189 H1; clear H; have H := H1; clear H1)
            | ((with_reducible refine gate_store (t := 32) (p := 191) rfl ?_); refine fr_set H (u := .slice _ _ _) rfl rfl rfl rfl rfl (by repeat (first | exact At.head | apply At.tail)) (Nat.le_of_ble_eq_true rfl) (by simp only [Value.cells, List.take_succ_cons, List.take_zero, List.drop_succ_cons, List.drop_zero, List.cons_append, List.nil_append, List.size_toArray, List.length_cons, List.length_nil, Nat.reduceAdd, List.append_nil, List.drop_nil, List.take_nil, List.toList_toArray]; rfl) (by kernel_rfl) (by simp [Value.cells, Value.oneCell']) ?_; intro w191_ H1; clear H; have H := H1; clear H1)
            | fail)
          refine ⟨⟨j + 1, some ⟨g4, 0, none⟩, on + 1, cap, by omega, rfl, HC4.out, by have := HON.out.2; omega, Lib.hid (by rw [HTJ.out, ← List.append_assoc, List.length_append, HLEN2.out]; rfl), H.imp (fun W h => ⟨h.1, ?_⟩)⟩, by simp [intOf]; omega⟩
          rw [HTJ.out, ← List.append_assoc, flH_snoc, HX.out]
          exact h.2
        · obtain rfl : j = nz := by omega
          have hxe : x = ⟨tk, rightsK p now l k ++ liesK k z j, true, rd0, false, []⟩ := by rw [HB0.out.2, HN.out.2.1, HN.out.2.2, HTK.out, HRD0.out]
          obtain ⟨r1, r2, r3, r4, r5, r6, r7, r8, r9, r10⟩ := HH'.out HF'.out.1 (by rw [HN.out.2.1]; have := HF'.out.2.1; rw [HN.out.2.1] at this; exact this) (by have := HF'.out.2.2.1; exact this) HF'.out.2.2.2 HOK2.out
          have hrd : rdB p ⟨tk, rightsK p now l k ++ liesK k z j, true, rd0, false, []⟩ = true := by rw [← hxe]; exact r6
          have KB : Hid (∀ W g A c, W.heap[g]? = some (.cells #[.int .i64 p.N, .int .i64 p.F, .int .i64 p.D, .int .i64 p.Be, .int .i64 p.Rho, .int .i64 p.De, .int .i64 p.Ji, .int .i64 p.Eps, .int .i64 p.Mu, .int .i64 p.Ho, .int .i64 p.Pu, .int .i64 p.Se, .int .i64 ylo, .int .i64 yhi, .int .i64 ytime, .bool yset, .int .i64 yheld, .int .i64 yhops, .bool ygood, .slice A ytab.length c, .int .i64 yst, .int .i64 ysn, .int .i64 ylife, .int .i64 0] 52 (0, 0)) → Tr (fun k => k = g) W (fun W => W.ownsRow w.heap.size 45 15 (.slice Ao on co) on (flH (rightsK p now l k ++ liesK k z j)) ∧ W.ownsRow w.heap.size 82 2 (.slice A ytab.length c) ytab.length (flL ytab)) → Calls Try.prog 10 #[.pointer (some ⟨g, 0, none⟩), .agg #[.int .i64 tk, .slice Ao on co, .bool true, .int .i64 rd0, .bool false, .slice none 0 0]] W fun e w' => ∃ (A1 : Option Addr) (c1 : Nat) (A2 : Option Addr) (c2 : Nat) (s1 s2 pu : Int), e = .returned (.agg #[.int .i64 1, .int .i64 0, .int .i64 ulo, .int .i64 uhi, .int .i64 uheld, .int .i64 uhops, .bool ugood, .bool true, .int .i64 s1, .int .i64 s2, .int .i64 pu, .int .i64 ust, .int .i64 usn, .slice A2 utab.length c2]) ∧ w'.heap[g]? = some (.cells #[.int .i64 p.N, .int .i64 p.F, .int .i64 p.D, .int .i64 p.Be, .int .i64 p.Rho, .int .i64 p.De, .int .i64 p.Ji, .int .i64 p.Eps, .int .i64 p.Mu, .int .i64 p.Ho, .int .i64 p.Pu, .int .i64 p.Se, .int .i64 ulo, .int .i64 uhi, .int .i64 utime, .bool uset, .int .i64 uheld, .int .i64 uhops, .bool ugood, .slice A1 utab.length c1, .int .i64 ust, .int .i64 usn, .int .i64 ulife, .int .i64 0] 52 (0, 0)) ∧ Chg (fun k => k = g) W w') := Lib.hid (fun W g A c h1 h2 => by
            have := Beat_to p 0 ⟨ylo, yhi, ytime, yset, yheld, yhops, ygood, ytab, yst, ysn, ylife⟩ A c g ⟨tk, rightsK p now l k ++ liesK k z j, true, rd0, false, []⟩ Ao co none 0 W ⟨ulo, uhi, utime, uset, uheld, uhops, ugood, utab, ust, usn, ulife⟩ (by rw [← hxe]; exact HB0.out.1) h1 (Foot.imp h2 (fun W' h => ⟨rowH_own h.1, leaps_nil _, own_C h.2 rfl⟩)) (by have h9 := HLEN2.out; dsimp only; rw [h9]; have := HLA'.out; have := HN.out; omega) (by simp) HLA'.out.2.2
            rw [hrd] at this
            dsimp only at this
            rw [HLEN2.out] at this
            refine this.mono ?_
            rintro e w' ⟨A3, c3, A4, c4, h3, h4, _, _, _, h5⟩
            exact ⟨A3, c3, A4, c4, _, _, _, h3, h4, h5⟩)
          have KHe : Hid (∀ W A c g, W.heap[g]? = some (.cells #[.int .i64 p.N, .int .i64 p.F, .int .i64 p.D, .int .i64 p.Be, .int .i64 p.Rho, .int .i64 p.De, .int .i64 p.Ji, .int .i64 p.Eps, .int .i64 p.Mu, .int .i64 p.Ho, .int .i64 p.Pu, .int .i64 p.Se, .int .i64 ulo, .int .i64 uhi, .int .i64 utime, .bool uset, .int .i64 uheld, .int .i64 uhops, .bool ugood, .slice A utab.length c, .int .i64 ust, .int .i64 usn, .int .i64 ulife, .int .i64 0] 52 (0, 0)) → Calls Try.prog 12 #[.pointer (some ⟨g, 0, none⟩)] W fun e w' => e = .returned (.int .i64 1) ∧ Below W.heap.size W w') := Lib.hid (fun W A c g h => by
            have := Health_calls p ⟨ulo, uhi, utime, uset, uheld, uhops, ugood, utab, ust, usn, ulife⟩ A c g 0 W h
            dsimp only at this
            rw [r5] at this
            exact this)
          obtain ⟨hp, hhp⟩ : ∃ t, hopP p = t := ⟨_, rfl⟩
          rw [hhp] at KHop r3 r9
          obtain ⟨dd, hdd⟩ : ∃ t, uhi - ulo = t := ⟨_, rfl⟩
          obtain ⟨ee, hee⟩ : ∃ t, 2 * p.Eps = t := ⟨_, rfl⟩
          obtain ⟨e3, he3⟩ : ∃ t, ee + hp = t := ⟨_, rfl⟩
          have hbd := HCK'.out
          have htn := HE.out.2.2
          have hy1 : IntKind.i64.wrap (uhi - ulo) = dd := by rw [IntKind.wrap_i64]; omega
          have hy2 : IntKind.i64.wrap (2 * p.Eps) = ee := by rw [IntKind.wrap_i64]; omega
          have hy3 : IntKind.i64.wrap (ee + hp) = e3 := by rw [IntKind.wrap_i64]; omega
          have hy4 : decide (e3 < dd) = false := decide_eq_false (by omega)
          have hy5 : decide (tn < ulo) = false := decide_eq_false (by omega)
          have hy6 : decide (uhi < tn) = false := decide_eq_false (by omega)
          have hcs : ((ob != 0) = false ∧ decide (ulo ≤ utime) = true ∧ decide (utime ≤ uhi) = true) ∨ (ob != 0) = true := by
            by_cases h0 : ob = 0
            · exact .inl ⟨by rw [h0]; rfl, decide_eq_true (r10 h0).1, decide_eq_true (r10 h0).2⟩
            · exact .inr (by simpa using h0)
          subst r4
          clear r1 r2 r3 r5 r6 r7 r8 r9 r10 hbd htn hhp hdd hee he3 hxe hrd HH' HOK2 hk16 hco hon
          go_upto_region 26 with (first
            | (go_at_call 9; (with_reducible refine (KN'.out _ H.now.1).mono ?_); rintro e w' ⟨g, A1, c1, rfl, hg, hb, ho, hne, hB⟩; have H1 := Fr.freshRow H hg hb hB ho hne; clear hg hb hB ho hne H; have H := H1; clear H1)
            | (go_at_call 10; have HT : Tr (fun k => k = g) _ (fun W => W.ownsRow w.heap.size 45 15 (.slice Ao on co) on (flH (rightsK p now l k ++ liesK k z j)) ∧ W.ownsRow w.heap.size 82 2 (.slice A1 ytab.length c1) ytab.length (flL ytab)) := Foot.imp (Fr.trAt H (by repeat (first | exact At.head | apply At.tail))) (fun _ h => ⟨h.1.2, h.2⟩); (with_reducible refine (KB.out _ g A1 c1 (H.of (by repeat (first | exact At.head | apply At.tail))) HT).mono ?_); clear HT; rintro e w' ⟨A3, c3, A4, c4, s1, s2, pu, rfl, hb, hc⟩; have H1 := H.turn (by repeat (first | exact At.head | apply At.tail)) hb hc; clear hb hc H; have H := H1; clear H1)
            | ((with_reducible refine gate_dst (N := 193) rfl ?_); refine fr_sub H (n := 12) rfl rfl rfl (by repeat (first | exact At.head | apply At.tail)) Try.underlying23 rfl (by kernel_rfl) (by simp only [List.toList_toArray, List.drop_succ_cons, List.drop_zero, List.take_succ_cons, List.take_zero]; rfl) (by rfl) ?_)
            | ((with_reducible refine gate_dst (N := 194) rfl ?_); refine fr_sub H (n := 11) rfl rfl rfl (by repeat (first | exact At.head | apply At.tail)) Try.underlying30 rfl (by kernel_rfl) (by simp only [List.toList_toArray, List.drop_succ_cons, List.drop_zero, List.take_succ_cons, List.take_zero]; rfl) (by rfl) ?_)
            | ((with_reducible refine gate_dst (N := 197) rfl ?_); refine fr_sub H (n := 6) rfl rfl rfl (by repeat (first | exact At.head | apply At.tail)) Try.underlying38 rfl (by kernel_rfl) (by simp only [List.toList_toArray, List.drop_succ_cons, List.drop_zero, List.take_succ_cons, List.take_zero]; rfl) (by rfl) ?_)
            | ((with_reducible refine gate_dst (N := 20) rfl ?_); refine fr_new H (N := 20) rfl rfl (cs := #[.int .i64 0, .int .i64 0, .int .i64 0, .int .i64 0, .int .i64 0, .int .i64 0, .bool false, .bool false, .int .i64 0, .int .i64 0, .int .i64 0, .int .i64 0, .int .i64 0, .slice none 0 0]) (t := 43) ?hr ?_; (case hr => first | (go_simp; done) | (go_simp; rfl)); intro g20 w20 H1; clear H; have H := H1; clear H1)
            | ((with_reducible refine gate_store (t := 43) (p := 20) rfl ?_); refine fr_put H rfl rfl rfl rfl rfl (by repeat (first | exact At.head | apply At.tail)) (by rfl) (by kernel_rfl) (by simp [Value.oneCell']) ?_; intro w20_ H1; clear H; have H := H1; clear H1)
            | ((with_reducible refine gate_dst (N := 201) rfl ?_); refine fr_get H rfl rfl rfl (by repeat (first | exact At.head | apply At.tail)) Try.underlying3 rfl (by simp only [List.getElem?_toArray, List.getElem?_cons_succ, List.getElem?_cons_zero]; rfl) ?_)
            | ((with_reducible refine gate_dst (N := 208) rfl ?_); refine fr_sub H (n := 2) rfl rfl rfl (by repeat (first | exact At.head | apply At.tail)) Try.underlying25 rfl (by kernel_rfl) (by simp only [List.toList_toArray, List.drop_succ_cons, List.drop_zero, List.take_succ_cons, List.take_zero]; rfl) (by rfl) ?_)
            | ((with_reducible refine gate_dst (N := 22) rfl ?_); refine fr_new H (N := 22) rfl rfl (cs := #[.int .i64 0, .int .i64 0]) (t := 25) ?hr ?_; (case hr => first | (go_simp; done) | (go_simp; rfl)); intro g22 w22 H1; clear H; have H := H1; clear H1)
            | ((with_reducible refine gate_store (t := 25) (p := 22) rfl ?_); refine fr_put H rfl rfl rfl rfl rfl (by repeat (first | exact At.head | apply At.tail)) (by rfl) (by kernel_rfl) (by simp [Value.oneCell']) ?_; intro w22_ H1; clear H; have H := H1; clear H1)
            | fail)
          rcases hcs with ⟨hz1, hz2, hz3⟩ | hz1
          all_goals
            refine ko_region0 H (by kernel_rfl) (by as_aux_lemma => kernel_rfl) (fun HR => ?_)
            repeat (first
              | ((with_reducible refine kg_call (f := 11) rfl ?_); refine ko_call 11 _ rfl (by rfl) Try.func11 (by kernel_rfl) rfl (by kernel_rfl) (by simp only [List.map_toArray, List.map_cons, List.map_nil]; rfl) (fun W hC hd => KHop.out W) ?_; (try simp only [Act.put, List.setIfInBounds_toArray, List.set_cons_zero, List.set_cons_succ, Nat.reduceAdd]))
              | ((with_reducible refine kg_call (f := 12) rfl ?_); refine ko_call 12 _ rfl (by rfl) Try.func12 (by kernel_rfl) rfl (by kernel_rfl) (by simp only [List.map_toArray, List.map_cons, List.map_nil]; rfl) (fun W hC hd => KHe.out W A3 c3 g ((HR W hC).blk (g, _) (by repeat (first | exact List.mem_cons_self | apply List.mem_cons_of_mem)))) ?_; (try simp only [Act.put, List.setIfInBounds_toArray, List.set_cons_zero, List.set_cons_succ, Nat.reduceAdd]))
              | ((with_reducible refine kg_dst (N := 6) rfl ?_); refine ko_var rfl (by rfl) (fun W K hK => by go_simp; exact hK.out) ?_; intro g6; (try simp only [Act.put, List.setIfInBounds_toArray, List.set_cons_zero, List.set_cons_succ, Nat.reduceAdd]))
              | ((with_reducible refine kg_dst (N := 7) rfl ?_); refine ko_var rfl (by rfl) (fun W K hK => by go_simp; exact hK.out) ?_; intro g7; (try simp only [Act.put, List.setIfInBounds_toArray, List.set_cons_zero, List.set_cons_succ, Nat.reduceAdd]))
              | ((with_reducible refine kg_load (ty := 23) rfl ?_); refine ko_sub HR (n := 12) rfl (by rfl) (by rfl) (by repeat (first | exact At.head | apply At.tail)) Try.underlying23 rfl (by kernel_rfl) (by simp only [List.toList_toArray, List.drop_succ_cons, List.drop_zero, List.take_succ_cons, List.take_zero]; rfl) (by rfl) ?_; (try simp only [Act.put, List.setIfInBounds_toArray, List.set_cons_zero, List.set_cons_succ, Nat.reduceAdd]))
              | ((with_reducible refine kg_load (ty := 30) rfl ?_); refine ko_sub HR (n := 11) rfl (by rfl) (by rfl) (by repeat (first | exact At.head | apply At.tail)) Try.underlying30 rfl (by kernel_rfl) (by simp only [List.toList_toArray, List.drop_succ_cons, List.drop_zero, List.take_succ_cons, List.take_zero]; rfl) (by rfl) ?_; (try simp only [Act.put, List.setIfInBounds_toArray, List.set_cons_zero, List.set_cons_succ, Nat.reduceAdd]))
              | ((with_reducible refine kg_dst (N := 32) rfl ?_); refine ko_row rfl (by rfl) (fun W K hK => by go_simp; exact hK.out) ?_; intro x32; (try simp only [Act.put, List.setIfInBounds_toArray, List.set_cons_zero, List.set_cons_succ, Nat.reduceAdd]))
              | ((with_reducible refine kg_load (ty := 3) rfl ?_); refine ko_get HR rfl (by rfl) (by rfl) (by repeat (first | exact At.head | apply At.tail)) Try.underlying3 rfl (by simp only [List.getElem?_toArray, List.getElem?_cons_succ, List.getElem?_cons_zero]; rfl) ?_; (try simp only [Act.put, List.setIfInBounds_toArray, List.set_cons_zero, List.set_cons_succ, Nat.reduceAdd]))
              | ((with_reducible refine kg_dst (N := 13) rfl ?_); refine ko_var rfl (by rfl) (fun W K hK => by go_simp; exact hK.out) ?_; intro g13; (try simp only [Act.put, List.setIfInBounds_toArray, List.set_cons_zero, List.set_cons_succ, Nat.reduceAdd]))
              | ((with_reducible refine kg_store (ty := 38) rfl ?_); refine ko_put (u := .agg (List.toArray _)) rfl rfl (by rfl) (by rfl) (by rfl) (by repeat (first | exact VarAt.head | apply VarAt.tail)) (by kernel_rfl) (Nat.le_of_ble_eq_true rfl) (by simp only [Value.cells, List.take_succ_cons, List.take_zero, List.drop_succ_cons, List.drop_zero, List.cons_append, List.nil_append, List.length_cons, List.length_nil, Nat.reduceAdd, List.append_nil, List.drop_nil, List.take_nil]; rfl) (by repeat (first | exact VarAt.head | apply VarAt.tail)) (by simp [apartR, Value.cells]) (by kernel_rfl) (by simp [Value.cells, Value.oneCell']) ?_; (try simp only [Value.cells, List.length_cons, List.length_nil, Nat.reduceAdd]))
              | ((with_reducible refine kg_load (ty := 41) rfl ?_); refine ko_sub HR (n := 3) rfl (by rfl) (by rfl) (by repeat (first | exact At.head | apply At.tail)) Try.underlying41 rfl (by kernel_rfl) (by simp only [List.toList_toArray, List.drop_succ_cons, List.drop_zero, List.take_succ_cons, List.take_zero]; rfl) (by rfl) ?_; (try simp only [Act.put, List.setIfInBounds_toArray, List.set_cons_zero, List.set_cons_succ, Nat.reduceAdd]))
              | ((with_reducible refine kg_dst (N := 15) rfl ?_); refine ko_var rfl (by rfl) (fun W K hK => by go_simp; exact hK.out) ?_; intro g15; (try simp only [Act.put, List.setIfInBounds_toArray, List.set_cons_zero, List.set_cons_succ, Nat.reduceAdd]))
              | ((with_reducible refine kg_store (ty := 41) rfl ?_); refine ko_put (u := .agg (List.toArray _)) rfl rfl (by rfl) (by rfl) (by rfl) (by repeat (first | exact VarAt.head | apply VarAt.tail)) (by kernel_rfl) (Nat.le_of_ble_eq_true rfl) (by simp only [Value.cells, List.take_succ_cons, List.take_zero, List.drop_succ_cons, List.drop_zero, List.cons_append, List.nil_append, List.length_cons, List.length_nil, Nat.reduceAdd, List.append_nil, List.drop_nil, List.take_nil]; rfl) (by repeat (first | exact VarAt.head | apply VarAt.tail)) (by simp [apartR, Value.cells]) (by kernel_rfl) (by simp [Value.cells, Value.oneCell']) ?_; (try simp only [Value.cells, List.length_cons, List.length_nil, Nat.reduceAdd]))
              | ((with_reducible refine kg_store (ty := 3) rfl ?_); refine ko_put (u := .int .i64 _) rfl rfl (by rfl) (by rfl) (by rfl) (by repeat (first | exact VarAt.head | apply VarAt.tail)) (by kernel_rfl) (Nat.le_of_ble_eq_true rfl) (by simp only [Value.cells, List.take_succ_cons, List.take_zero, List.drop_succ_cons, List.drop_zero, List.cons_append, List.nil_append, List.length_cons, List.length_nil, Nat.reduceAdd, List.append_nil, List.drop_nil, List.take_nil]; rfl) (by repeat (first | exact VarAt.head | apply VarAt.tail)) (by simp [apartR, Value.cells]) (by kernel_rfl) (by simp [Value.cells, Value.oneCell']) ?_; (try simp only [Value.cells, List.length_cons, List.length_nil, Nat.reduceAdd]))
              | ((with_reducible refine kg_dst (N := 16) rfl ?_); refine ko_var rfl (by rfl) (fun W K hK => by go_simp; exact hK.out) ?_; intro g16; (try simp only [Act.put, List.setIfInBounds_toArray, List.set_cons_zero, List.set_cons_succ, Nat.reduceAdd]))
              | ((with_reducible refine kg_store (ty := 25) rfl ?_); refine ko_put (u := .agg (List.toArray _)) rfl rfl (by rfl) (by rfl) (by rfl) (by repeat (first | exact VarAt.head | apply VarAt.tail)) (by kernel_rfl) (Nat.le_of_ble_eq_true rfl) (by simp only [Value.cells, List.take_succ_cons, List.take_zero, List.drop_succ_cons, List.drop_zero, List.cons_append, List.nil_append, List.length_cons, List.length_nil, Nat.reduceAdd, List.append_nil, List.drop_nil, List.take_nil]; rfl) (by repeat (first | exact VarAt.head | apply VarAt.tail)) (by simp [apartR, Value.cells]) (by kernel_rfl) (by simp [Value.cells, Value.oneCell']) ?_; (try simp only [Value.cells, List.length_cons, List.length_nil, Nat.reduceAdd]))
              | ((with_reducible refine kg_load (ty := 32) rfl ?_); refine ko_get HR rfl (by rfl) (by rfl) (by repeat (first | exact At.head | apply At.tail)) Try.underlying32 rfl (by simp only [List.getElem?_toArray, List.getElem?_cons_succ, List.getElem?_cons_zero]; rfl) ?_; (try simp only [Act.put, List.setIfInBounds_toArray, List.set_cons_zero, List.set_cons_succ, Nat.reduceAdd]))
              | ((with_reducible refine kg_load (ty := 25) rfl ?_); refine ko_sub HR (n := 2) rfl (by rfl) (by rfl) (by repeat (first | exact At.head | apply At.tail)) Try.underlying25 rfl (by kernel_rfl) (by simp only [List.toList_toArray, List.drop_succ_cons, List.drop_zero, List.take_succ_cons, List.take_zero]; rfl) (by rfl) ?_; (try simp only [Act.put, List.setIfInBounds_toArray, List.set_cons_zero, List.set_cons_succ, Nat.reduceAdd]))
              | ((with_reducible refine kg_dst (N := 169) rfl ?_); refine ko_row rfl (by rfl) (fun W K hK => by go_simp; exact hK.out) ?_; intro x169; (try simp only [Act.put, List.setIfInBounds_toArray, List.set_cons_zero, List.set_cons_succ, Nat.reduceAdd]))
              | ((with_reducible refine kg_store (ty := 32) rfl ?_); refine ko_put (u := .slice _ _ _) rfl rfl (by rfl) (by rfl) (by rfl) (by repeat (first | exact VarAt.head | apply VarAt.tail)) (by kernel_rfl) (Nat.le_of_ble_eq_true rfl) (by simp only [Value.cells, List.take_succ_cons, List.take_zero, List.drop_succ_cons, List.drop_zero, List.cons_append, List.nil_append, List.length_cons, List.length_nil, Nat.reduceAdd, List.append_nil, List.drop_nil, List.take_nil]; rfl) (by repeat (first | exact VarAt.head | apply VarAt.tail)) (by simp [apartR, Value.cells]) (by kernel_rfl) (by simp [Value.cells, Value.oneCell']) ?_; (try simp only [Value.cells, List.length_cons, List.length_nil, Nat.reduceAdd]))
              | ((with_reducible refine kg_load (ty := 45) rfl ?_); refine ko_sub HR (n := 15) rfl (by rfl) (by rfl) (by repeat (first | exact At.head | apply At.tail)) Try.underlying45 rfl (by kernel_rfl) (by simp only [List.toList_toArray, List.drop_succ_cons, List.drop_zero, List.take_succ_cons, List.take_zero]; rfl) (by rfl) ?_; (try simp only [Act.put, List.setIfInBounds_toArray, List.set_cons_zero, List.set_cons_succ, Nat.reduceAdd]))
              | ((with_reducible refine kg_dst (N := 18) rfl ?_); refine ko_var rfl (by rfl) (fun W K hK => by go_simp; exact hK.out) ?_; intro g18; (try simp only [Act.put, List.setIfInBounds_toArray, List.set_cons_zero, List.set_cons_succ, Nat.reduceAdd]))
              | ((with_reducible refine kg_store (ty := 45) rfl ?_); refine ko_put (u := .agg (List.toArray _)) rfl rfl (by rfl) (by rfl) (by rfl) (by repeat (first | exact VarAt.head | apply VarAt.tail)) (by kernel_rfl) (Nat.le_of_ble_eq_true rfl) (by simp only [Value.cells, List.take_succ_cons, List.take_zero, List.drop_succ_cons, List.drop_zero, List.cons_append, List.nil_append, List.length_cons, List.length_nil, Nat.reduceAdd, List.append_nil, List.drop_nil, List.take_nil]; rfl) (by repeat (first | exact VarAt.head | apply VarAt.tail)) (by simp [apartR, Value.cells]) (by kernel_rfl) (by simp [Value.cells, Value.oneCell']) ?_; (try simp only [Value.cells, List.length_cons, List.length_nil, Nat.reduceAdd]))
              | ((with_reducible refine kg_dst (N := 189) rfl ?_); refine ko_row rfl (by rfl) (fun W K hK => by go_simp; exact hK.out) ?_; intro x189; (try simp only [Act.put, List.setIfInBounds_toArray, List.set_cons_zero, List.set_cons_succ, Nat.reduceAdd]))
              | ((with_reducible refine kg_load (ty := 38) rfl ?_); refine ko_sub HR (n := 6) rfl (by rfl) (by rfl) (by repeat (first | exact At.head | apply At.tail)) Try.underlying38 rfl (by kernel_rfl) (by simp only [List.toList_toArray, List.drop_succ_cons, List.drop_zero, List.take_succ_cons, List.take_zero]; rfl) (by rfl) ?_; (try simp only [Act.put, List.setIfInBounds_toArray, List.set_cons_zero, List.set_cons_succ, Nat.reduceAdd]))
              | ((with_reducible refine kg_dst (N := 20) rfl ?_); refine ko_var rfl (by rfl) (fun W K hK => by go_simp; exact hK.out) ?_; intro g20; (try simp only [Act.put, List.setIfInBounds_toArray, List.set_cons_zero, List.set_cons_succ, Nat.reduceAdd]))
              | ((with_reducible refine kg_store (ty := 43) rfl ?_); refine ko_put (u := .agg (List.toArray _)) rfl rfl (by rfl) (by rfl) (by rfl) (by repeat (first | exact VarAt.head | apply VarAt.tail)) (by kernel_rfl) (Nat.le_of_ble_eq_true rfl) (by simp only [Value.cells, List.take_succ_cons, List.take_zero, List.drop_succ_cons, List.drop_zero, List.cons_append, List.nil_append, List.length_cons, List.length_nil, Nat.reduceAdd, List.append_nil, List.drop_nil, List.take_nil]; rfl) (by repeat (first | exact VarAt.head | apply VarAt.tail)) (by simp [apartR, Value.cells]) (by kernel_rfl) (by simp [Value.cells, Value.oneCell']) ?_; (try simp only [Value.cells, List.length_cons, List.length_nil, Nat.reduceAdd]))
              | ((with_reducible refine kg_dst (N := 22) rfl ?_); refine ko_var rfl (by rfl) (fun W K hK => by go_simp; exact hK.out) ?_; intro g22; (try simp only [Act.put, List.setIfInBounds_toArray, List.set_cons_zero, List.set_cons_succ, Nat.reduceAdd]))
              | ((with_reducible refine kg_load (ty := 4) rfl ?_); refine ko_get HR rfl (by rfl) (by rfl) (by repeat (first | exact At.head | apply At.tail)) Try.underlying4 rfl (by simp only [List.getElem?_toArray, List.getElem?_cons_succ, List.getElem?_cons_zero]; rfl) ?_; (try simp only [Act.put, List.setIfInBounds_toArray, List.set_cons_zero, List.set_cons_succ, Nat.reduceAdd]))
              | (refine ko_pure rfl (by rfl) (fun W K hK => by go_simp; exact hK.out) ?_; (try simp only [Act.put, List.setIfInBounds_toArray, List.set_cons_zero, List.set_cons_succ, Nat.reduceAdd]))
              | (refine ko_off (by rfl) ?_; (try simp only [Act.put, List.setIfInBounds_toArray, List.set_cons_zero, List.set_cons_succ, Nat.reduceAdd])))
            refine ko_end ?_
            intro w1 H1
            clear HR H
            have H := H1
            clear H1
            (try simp only [List.map_cons, List.map_nil, cv, List.cons_append, List.nil_append] at H)
            go_upto_region 28 with fail
            refine ro_start (Frs _ _ _ _ _) [] [0, 1, 2, 3, 4, 5, 6, 7, 8, 9, 10, 11, 12, 13, 14, 15, 16, 17, 18, 19, 20, 21, 22, 23, 24, 25, 26, 27, 28] 29 (by kernel_rfl) (by rfl) (by simp only [pickR, List.getElem?_cons_succ, List.getElem?_cons_zero]; rfl) (by rfl) (H.drewN 1) (fun HS => ?_)
            have H1 : Fr _ _ _ _ _ _ := HS
            clear HS H
            have H := H1
            clear H1
            repeat (first
              | ((with_reducible refine rz_call (f := 14) rfl ?_); refine ro_call 14 _ rfl (by kernel_rfl) (by kernel_rfl) (by rfl) Try.func14 (by kernel_rfl) rfl (by simp only [List.map_toArray, List.map_cons, List.map_nil]; rfl) ?_; (refine (KSa'.out _ H.now.1.1.2.2).mono ?_); rintro e w' ⟨A5, c5, rfl, ho, hb⟩; have H1 := H.call hb; refine ⟨_, rfl, H1, fun _ => ?_⟩; clear hb ho H; have H := H1; clear H1; (try simp only [Act.put, List.setIfInBounds_toArray, List.set_cons_zero, List.set_cons_succ, Nat.reduceAdd]))
              | ((with_reducible refine rz_call (f := 13) rfl ?_); refine ro_call 13 _ rfl (by kernel_rfl) (by kernel_rfl) (by rfl) Try.func13 (by kernel_rfl) rfl (by simp only [List.map_toArray, List.map_cons, List.map_nil]; rfl) ?_; (refine (KOf.out _ _ _).mono ?_); rintro e w' ⟨rfl, hb⟩; have H1 := H.call hb; refine ⟨_, rfl, H1, fun _ => ?_⟩; clear hb; clear H; have H := H1; clear H1; (try simp only [Act.put, List.setIfInBounds_toArray, List.set_cons_zero, List.set_cons_succ, Nat.reduceAdd]))
              | ((with_reducible refine rz_dst (N := 6) rfl ?_); refine ro_box H rfl (by kernel_rfl) (by kernel_rfl) (by rfl) (by rfl) ?_; intro g6 w1 hg6 H1; clear H; have H := H1; clear H1; (try simp only [Act.put, List.setIfInBounds_toArray, List.set_cons_zero, List.set_cons_succ, Nat.reduceAdd]))
              | ((with_reducible refine rz_dst (N := 7) rfl ?_); refine ro_box H rfl (by kernel_rfl) (by kernel_rfl) (by rfl) (by rfl) ?_; intro g7 w1 hg7 H1; clear H; have H := H1; clear H1; (try simp only [Act.put, List.setIfInBounds_toArray, List.set_cons_zero, List.set_cons_succ, Nat.reduceAdd]))
              | ((with_reducible refine rz_load (ty := 23) rfl ?_); refine ro_sub H (m := 12) rfl (by kernel_rfl) (fun _ _ _ h => h) (by rfl) (by rfl) (by repeat (first | exact At.head | apply At.tail)) Try.underlying23 rfl (by kernel_rfl) (by simp only [List.toList_toArray, List.drop_succ_cons, List.drop_zero, List.take_succ_cons, List.take_zero]; rfl) (by rfl) ?_; (try simp only [Act.put, List.setIfInBounds_toArray, List.set_cons_zero, List.set_cons_succ, Nat.reduceAdd]))
              | ((with_reducible refine rz_load (ty := 30) rfl ?_); refine ro_sub H (m := 11) rfl (by kernel_rfl) (fun _ _ _ h => h) (by rfl) (by rfl) (by repeat (first | exact At.head | apply At.tail)) Try.underlying30 rfl (by kernel_rfl) (by simp only [List.toList_toArray, List.drop_succ_cons, List.drop_zero, List.take_succ_cons, List.take_zero]; rfl) (by rfl) ?_; (try simp only [Act.put, List.setIfInBounds_toArray, List.set_cons_zero, List.set_cons_succ, Nat.reduceAdd]))
              | ((with_reducible refine rz_dst (N := 32) rfl ?_); refine ro_row H (by kernel_rfl) (by kernel_rfl) (by rfl) (fun K hK => by go_simp; exact hK.out) ?_; intro x32 w1 hx32 H1; clear H; have H := H1; clear H1; (try simp only [Act.put, List.setIfInBounds_toArray, List.set_cons_zero, List.set_cons_succ, Nat.reduceAdd]))
              | ((with_reducible refine rz_load (ty := 3) rfl ?_); refine ro_get H rfl (by kernel_rfl) (fun _ _ _ h => h) (by rfl) (by rfl) (by repeat (first | exact At.head | apply At.tail)) Try.underlying3 rfl (by simp only [List.getElem?_toArray, List.getElem?_cons_succ, List.getElem?_cons_zero]; rfl) ?_; (try simp only [Act.put, List.setIfInBounds_toArray, List.set_cons_zero, List.set_cons_succ, Nat.reduceAdd]))
              | ((with_reducible refine rz_store (ty := 38) rfl ?_); refine ro_set H (u := .agg (List.toArray _)) rfl rfl (by kernel_rfl) (by kernel_rfl) (by rfl) (by rfl) (by rfl) (by repeat (first | exact At.head | apply At.tail)) (Nat.le_of_ble_eq_true rfl) (by simp only [Value.cells, List.take_succ_cons, List.take_zero, List.drop_succ_cons, List.drop_zero, List.cons_append, List.nil_append, List.size_toArray, List.length_cons, List.length_nil, Nat.reduceAdd, List.append_nil, List.drop_nil, List.take_nil, List.toList_toArray]; rfl) (by kernel_rfl) (by simp [Value.cells, Value.oneCell']) ?_; intro w1 H1; clear H; have H := H1; clear H1; (try simp only [Act.put, List.setIfInBounds_toArray, List.set_cons_zero, List.set_cons_succ, Nat.reduceAdd]))
              | ((with_reducible refine rz_load (ty := 41) rfl ?_); refine ro_sub H (m := 3) rfl (by kernel_rfl) (fun _ _ _ h => h) (by rfl) (by rfl) (by repeat (first | exact At.head | apply At.tail)) Try.underlying41 rfl (by kernel_rfl) (by simp only [List.toList_toArray, List.drop_succ_cons, List.drop_zero, List.take_succ_cons, List.take_zero]; rfl) (by rfl) ?_; (try simp only [Act.put, List.setIfInBounds_toArray, List.set_cons_zero, List.set_cons_succ, Nat.reduceAdd]))
              | ((with_reducible refine rz_store (ty := 41) rfl ?_); refine ro_set H (u := .agg (List.toArray _)) rfl rfl (by kernel_rfl) (by kernel_rfl) (by rfl) (by rfl) (by rfl) (by repeat (first | exact At.head | apply At.tail)) (Nat.le_of_ble_eq_true rfl) (by simp only [Value.cells, List.take_succ_cons, List.take_zero, List.drop_succ_cons, List.drop_zero, List.cons_append, List.nil_append, List.size_toArray, List.length_cons, List.length_nil, Nat.reduceAdd, List.append_nil, List.drop_nil, List.take_nil, List.toList_toArray]; rfl) (by kernel_rfl) (by simp [Value.cells, Value.oneCell']) ?_; intro w1 H1; clear H; have H := H1; clear H1; (try simp only [Act.put, List.setIfInBounds_toArray, List.set_cons_zero, List.set_cons_succ, Nat.reduceAdd]))
              | ((with_reducible refine rz_store (ty := 3) rfl ?_); refine ro_set H (u := .int .i64 _) rfl rfl (by kernel_rfl) (by kernel_rfl) (by rfl) (by rfl) (by rfl) (by repeat (first | exact At.head | apply At.tail)) (Nat.le_of_ble_eq_true rfl) (by simp only [Value.cells, List.take_succ_cons, List.take_zero, List.drop_succ_cons, List.drop_zero, List.cons_append, List.nil_append, List.size_toArray, List.length_cons, List.length_nil, Nat.reduceAdd, List.append_nil, List.drop_nil, List.take_nil, List.toList_toArray]; rfl) (by kernel_rfl) (by simp [Value.cells, Value.oneCell']) ?_; intro w1 H1; clear H; have H := H1; clear H1; (try simp only [Act.put, List.setIfInBounds_toArray, List.set_cons_zero, List.set_cons_succ, Nat.reduceAdd]))
              | ((with_reducible refine rz_store (ty := 25) rfl ?_); refine ro_set H (u := .agg (List.toArray _)) rfl rfl (by kernel_rfl) (by kernel_rfl) (by rfl) (by rfl) (by rfl) (by repeat (first | exact At.head | apply At.tail)) (Nat.le_of_ble_eq_true rfl) (by simp only [Value.cells, List.take_succ_cons, List.take_zero, List.drop_succ_cons, List.drop_zero, List.cons_append, List.nil_append, List.size_toArray, List.length_cons, List.length_nil, Nat.reduceAdd, List.append_nil, List.drop_nil, List.take_nil, List.toList_toArray]; rfl) (by kernel_rfl) (by simp [Value.cells, Value.oneCell']) ?_; intro w1 H1; clear H; have H := H1; clear H1; (try simp only [Act.put, List.setIfInBounds_toArray, List.set_cons_zero, List.set_cons_succ, Nat.reduceAdd]))
              | ((with_reducible refine rz_load (ty := 32) rfl ?_); refine ro_get H rfl (by kernel_rfl) (fun _ _ _ h => h) (by rfl) (by rfl) (by repeat (first | exact At.head | apply At.tail)) Try.underlying32 rfl (by simp only [List.getElem?_toArray, List.getElem?_cons_succ, List.getElem?_cons_zero]; rfl) ?_; (try simp only [Act.put, List.setIfInBounds_toArray, List.set_cons_zero, List.set_cons_succ, Nat.reduceAdd]))
              | ((with_reducible refine rz_load (ty := 25) rfl ?_); refine ro_sub H (m := 2) rfl (by kernel_rfl) (fun _ _ _ h => h) (by rfl) (by rfl) (by repeat (first | exact At.head | apply At.tail)) Try.underlying25 rfl (by kernel_rfl) (by simp only [List.toList_toArray, List.drop_succ_cons, List.drop_zero, List.take_succ_cons, List.take_zero]; rfl) (by rfl) ?_; (try simp only [Act.put, List.setIfInBounds_toArray, List.set_cons_zero, List.set_cons_succ, Nat.reduceAdd]))
              | ((with_reducible refine rz_dst (N := 169) rfl ?_); refine ro_row H (by kernel_rfl) (by kernel_rfl) (by rfl) (fun K hK => by go_simp; exact hK.out) ?_; intro x169 w1 hx169 H1; clear H; have H := H1; clear H1; (try simp only [Act.put, List.setIfInBounds_toArray, List.set_cons_zero, List.set_cons_succ, Nat.reduceAdd]))
              | ((with_reducible refine rz_store (ty := 32) rfl ?_); refine ro_set H (u := .slice _ _ _) rfl rfl (by kernel_rfl) (by kernel_rfl) (by rfl) (by rfl) (by rfl) (by repeat (first | exact At.head | apply At.tail)) (Nat.le_of_ble_eq_true rfl) (by simp only [Value.cells, List.take_succ_cons, List.take_zero, List.drop_succ_cons, List.drop_zero, List.cons_append, List.nil_append, List.size_toArray, List.length_cons, List.length_nil, Nat.reduceAdd, List.append_nil, List.drop_nil, List.take_nil, List.toList_toArray]; rfl) (by kernel_rfl) (by simp [Value.cells, Value.oneCell']) ?_; intro w1 H1; clear H; have H := H1; clear H1; (try simp only [Act.put, List.setIfInBounds_toArray, List.set_cons_zero, List.set_cons_succ, Nat.reduceAdd]))
              | ((with_reducible refine rz_load (ty := 45) rfl ?_); refine ro_sub H (m := 15) rfl (by kernel_rfl) (fun _ _ _ h => h) (by rfl) (by rfl) (by repeat (first | exact At.head | apply At.tail)) Try.underlying45 rfl (by kernel_rfl) (by simp only [List.toList_toArray, List.drop_succ_cons, List.drop_zero, List.take_succ_cons, List.take_zero]; rfl) (by rfl) ?_; (try simp only [Act.put, List.setIfInBounds_toArray, List.set_cons_zero, List.set_cons_succ, Nat.reduceAdd]))
              | ((with_reducible refine rz_store (ty := 45) rfl ?_); refine ro_set H (u := .agg (List.toArray _)) rfl rfl (by kernel_rfl) (by kernel_rfl) (by rfl) (by rfl) (by rfl) (by repeat (first | exact At.head | apply At.tail)) (Nat.le_of_ble_eq_true rfl) (by simp only [Value.cells, List.take_succ_cons, List.take_zero, List.drop_succ_cons, List.drop_zero, List.cons_append, List.nil_append, List.size_toArray, List.length_cons, List.length_nil, Nat.reduceAdd, List.append_nil, List.drop_nil, List.take_nil, List.toList_toArray]; rfl) (by kernel_rfl) (by simp [Value.cells, Value.oneCell']) ?_; intro w1 H1; clear H; have H := H1; clear H1; (try simp only [Act.put, List.setIfInBounds_toArray, List.set_cons_zero, List.set_cons_succ, Nat.reduceAdd]))
              | ((with_reducible refine rz_dst (N := 189) rfl ?_); refine ro_row H (by kernel_rfl) (by kernel_rfl) (by rfl) (fun K hK => by go_simp; exact hK.out) ?_; intro x189 w1 hx189 H1; clear H; have H := H1; clear H1; (try simp only [Act.put, List.setIfInBounds_toArray, List.set_cons_zero, List.set_cons_succ, Nat.reduceAdd]))
              | ((with_reducible refine rz_load (ty := 38) rfl ?_); refine ro_sub H (m := 6) rfl (by kernel_rfl) (fun _ _ _ h => h) (by rfl) (by rfl) (by repeat (first | exact At.head | apply At.tail)) Try.underlying38 rfl (by kernel_rfl) (by simp only [List.toList_toArray, List.drop_succ_cons, List.drop_zero, List.take_succ_cons, List.take_zero]; rfl) (by rfl) ?_; (try simp only [Act.put, List.setIfInBounds_toArray, List.set_cons_zero, List.set_cons_succ, Nat.reduceAdd]))
              | ((with_reducible refine rz_store (ty := 43) rfl ?_); refine ro_set H (u := .agg (List.toArray _)) rfl rfl (by kernel_rfl) (by kernel_rfl) (by rfl) (by rfl) (by rfl) (by repeat (first | exact At.head | apply At.tail)) (Nat.le_of_ble_eq_true rfl) (by simp only [Value.cells, List.take_succ_cons, List.take_zero, List.drop_succ_cons, List.drop_zero, List.cons_append, List.nil_append, List.size_toArray, List.length_cons, List.length_nil, Nat.reduceAdd, List.append_nil, List.drop_nil, List.take_nil, List.toList_toArray]; rfl) (by kernel_rfl) (by simp [Value.cells, Value.oneCell']) ?_; intro w1 H1; clear H; have H := H1; clear H1; (try simp only [Act.put, List.setIfInBounds_toArray, List.set_cons_zero, List.set_cons_succ, Nat.reduceAdd]))
              | ((with_reducible refine rz_load (ty := 4) rfl ?_); refine ro_get H rfl (by kernel_rfl) (fun _ _ _ h => h) (by rfl) (by rfl) (by repeat (first | exact At.head | apply At.tail)) Try.underlying4 rfl (by simp only [List.getElem?_toArray, List.getElem?_cons_succ, List.getElem?_cons_zero]; rfl) ?_; (try simp only [Act.put, List.setIfInBounds_toArray, List.set_cons_zero, List.set_cons_succ, Nat.reduceAdd]))
              | (refine ro_off (by kernel_rfl) (fun _ _ _ h => h) (by rfl) ?_; (try simp only [Act.put, List.setIfInBounds_toArray, List.set_cons_zero, List.set_cons_succ, Nat.reduceAdd]))
              | (refine ro_pure (by kernel_rfl) (fun _ _ _ h => h) (by rfl) (fun W K hK => by go_simp; exact hK.out) ?_; (try simp only [Act.put, List.setIfInBounds_toArray, List.set_cons_zero, List.set_cons_succ, Nat.reduceAdd])))
            refine ro_done (by kernel_rfl) ?_
            go_wp2
            go_ret
            exact ⟨rfl, H.below⟩
end Go.Proofs.Ytbmfgcekglgliaa.G
