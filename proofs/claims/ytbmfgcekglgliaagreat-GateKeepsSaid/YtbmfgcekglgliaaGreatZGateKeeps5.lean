/- Texts Gj, Ya, Yb, Yc, Yd, Ye, in one file, without what is not needed here. -/
import Derived.Test.YtbmfgcekglgliaaGreatZGateKeeps4
namespace Go.Proofs.YtbmfgcekglgliaaGreat.G
open Go.RowKit Go.Proofs.YtbmfgcekglgliaaGreatW.PrintWords Go.Proofs.YtbmfgcekglgliaaGreatW.PrintLast Go.Proofs.YtbmfgcekglgliaaGreatW.PrintMore Go.Proofs.YtbmfgcekglgliaaGreatPl Go.Proofs.YtbmfgcekglgliaaGreatEm Go.Proofs.YtbmfgcekglgliaaGreatKr Go.Proofs.YtbmfgcekglgliaaGreatRz Go.Proofs.YtbmfgcekglgliaaGreat.X
set_option linter.unusedVariables false
set_option linter.unusedSimpArgs false
abbrev Hrd := S49
structure Hd where
  kind : Int
  frm : Int
  lo : Int
  hi : Int
  held : Int
  hops : Int
  good : Bool
  ref : Bool
  slo : Int
  shi : Int
  pulse : Int
  st : Int
  sn : Int
  A : Option Addr
  n : Nat
  c : Nat
  age : Int
deriving Inhabited
def encH (h : Hd) : List Value := [.int .i64 h.kind, .int .i64 h.frm, .int .i64 h.lo, .int .i64 h.hi, .int .i64 h.held, .int .i64 h.hops, .bool h.good, .bool h.ref, .int .i64 h.slo, .int .i64 h.shi, .int .i64 h.pulse, .int .i64 h.st, .int .i64 h.sn, .slice h.A h.n h.c, .int .i64 h.age]
theorem encH_len (h : Hd) : (encH h).length = 15 := rfl
theorem encH_one (h : Hd) : ∀ v ∈ encH h, v.oneCell' = true := by
  intro v hv
  simp only [encH, List.mem_cons, List.not_mem_nil, or_false] at hv
  rcases hv with rfl | rfl | rfl | rfl | rfl | rfl | rfl | rfl | rfl | rfl | rfl | rfl | rfl | rfl | rfl <;> rfl
def flH (l : List Hd) : List Value := l.flatMap encH
theorem flH_snoc (l : List Hd) (x : Hd) : flH (l ++ [x]) = flH l ++ encH x := by unfold flH; rw [List.flatMap_append]; simp
theorem flH_length : ∀ l : List Hd, (flH l).length = l.length * 15
  | [] => rfl
  | x :: l => by
    show (encH x ++ flH l).length = _
    rw [List.length_append, encH_len, flH_length l, List.length_cons]; omega
theorem flH_at : ∀ (l : List Hd) (j i : Nat) (q : Hd) (u : Value), l[j]? = some q → (encH q)[i]? = some u → (flH l)[j * 15 + i]? = some u
  | [], j, i, q, u, h, _ => by simp at h
  | x :: l, 0, i, q, u, h, hu => by
    simp at h
    subst h
    rw [show 0 * 15 + i = i by omega]
    show (encH x ++ flH l)[i]? = some u
    rw [List.getElem?_append_left (List.getElem?_eq_some_iff.1 hu).1]
    exact hu
  | x :: l, j + 1, i, q, u, h, hu => by
    have := flH_at l j i q u (by simpa using h) hu
    rw [show (j + 1) * 15 + i = (encH x).length + (j * 15 + i) by rw [encH_len]; omega]
    show (encH x ++ flH l)[(encH x).length + (j * 15 + i)]? = some u
    rw [List.getElem?_append_right (by omega)]
    simpa using this
def RowH (w : World) (A : Option Addr) (l : List Hd) : Prop := ∀ k (hk : k < l.length), ∃ ad, A = some ad ∧ ∀ j u, (encH l[k])[j]? = some u → w.cell? ((ad.add (k * 15)).add j) = some u
theorem RowH.below {w w' : World} {A : Option Addr} {l : List Hd} (h : RowH w A l) (hb : Below w.heap.size w w') : RowH w' A l := fun k hk => by
  obtain ⟨ad, e, hc⟩ := h k hk
  exact ⟨ad, e, fun j u hu => pw_cell_below hb (hc j u hu)⟩
theorem rowH_own {W : World} {b n c : Nat} {A : Option Addr} {l : List Hd} (h : W.ownsRow b 49 15 (.slice A n c) n (flH l)) : RowH W A l := by
  intro k hk
  obtain ⟨h1, ⟨h2, h3⟩ | ⟨g, cap, cur, h2, h3, h4, h5, h6, h7, h8⟩⟩ := h
  · rw [flH_length] at h1; omega
  · injection h2 with e1
    refine ⟨⟨g, 0, none⟩, e1, fun j u hu => ?_⟩
    rw [add_add]
    rw [show ((⟨g, 0, none⟩ : Addr).add (k * 15 + j)) = ⟨g, k * 15 + j, none⟩ by
      unfold Addr.add
      split
      · rename_i h0; simp at h0; obtain ⟨e1, e2⟩ := h0; rw [show k * 15 + j = 0 by omega]
      · simp, blk_cell h4]
    have e : (flH l)[k * 15 + j]? = some u := flH_at l k j l[k] u (List.getElem?_eq_getElem hk) hu
    rw [← h8, List.getElem?_take] at e
    split at e
    · simpa using e
    · cases e
def hdOf (x : Hrd) (A : Option Addr) (c : Nat) : Hd := ⟨x.f0.f0, x.f0.f1, x.f0.f2.f0, x.f0.f2.f1, x.f0.f3, x.f0.f4, x.f0.f5, x.f0.f6, x.f0.f7.f0, x.f0.f7.f1, x.f0.f8, x.f0.f9.f0, x.f0.f9.f1, A, x.f0.f10.length, c, x.f1⟩
theorem rowH_in {w : World} {A : Option Addr} {l : List Hrd} (h : Kd.C k49 w A l.length l) : ∃ hs : List Hd, hs.length = l.length ∧ (∀ k (hk : k < hs.length) (hl : k < l.length), ∃ A c, hs[k] = hdOf l[k] A c ∧ l[k].f0.f10.length ≤ c ∧ Kd.C k58 w A l[k].f0.f10.length l[k].f0.f10) ∧ RowH w A hs := by
  have each : ∀ k, k < l.length → ∃ x : Hd, ∃ (hl : k < l.length), (∃ A1 c, x = hdOf l[k] A1 c ∧ l[k].f0.f10.length ≤ c ∧ Kd.C k58 w A1 l[k].f0.f10.length l[k].f0.f10) ∧ ∃ ad, A = some ad ∧ ∀ j u, (encH x)[j]? = some u → w.cell? ((ad.add (k * 15)).add j) = some u := by
    intro k hk
    obtain ⟨ad, c, e, _, hK, hc⟩ := Kd.C_get h z49 k (by omega) (by omega)
    have hg : l.getD (k : Int).toNat z49 = l[k] := by simp [List.getD_eq_getElem?_getD, hk]
    rw [hg] at hK
    obtain ⟨A1, c1, e2, e3, e4⟩ := k49_open hK
    refine ⟨hdOf l[k] A1 c1, hk, ⟨A1, c1, rfl, e3, e4⟩, ad, e, fun j u hu => ?_⟩
    rw [add_add]
    have := hc j u (by rw [e2]; exact hu)
    rw [show (k : Int).toNat = k by omega] at this
    exact this
  obtain ⟨hs, h1, h2⟩ := Go.Proofs.YtbmfgcekglgliaaGreatRo.list_of (Q := fun k x => ∃ (hl : k < l.length), (∃ A1 c, x = hdOf l[k] A1 c ∧ l[k].f0.f10.length ≤ c ∧ Kd.C k58 w A1 l[k].f0.f10.length l[k].f0.f10) ∧ ∃ ad, A = some ad ∧ ∀ j u, (encH x)[j]? = some u → w.cell? ((ad.add (k * 15)).add j) = some u) l.length each
  refine ⟨hs, h1, fun k hk hl => ?_, fun k hk => ?_⟩
  · obtain ⟨_, h3, _⟩ := h2 k hs[k] (List.getElem?_eq_getElem hk)
    exact h3
  · obtain ⟨_, _, h3⟩ := h2 k hs[k] (List.getElem?_eq_getElem hk)
    exact h3
set_option maxRecDepth 100000 in
set_option maxHeartbeats 1000000 in
theorem Told1_calls (x : Hd) (gm : Nat) (mf : Int) (w : World) (h : w.cell? ⟨gm, 1, none⟩ = some (.int .i64 mf)) : Calls Tryz.prog 27 #[.agg (encH x).toArray, .pointer (some ⟨gm, 0, none⟩)] w fun e w' => e = .returned (.bool (x.frm == mf)) ∧ Below w.heap.size w w' := by
  have H := Fr.start0 (M := fun _ => False) (A := fun _ => False) (w := w) (p := fun W => W.cell? ⟨gm, 1, none⟩ = some (.int .i64 mf)) (fun _ h => h.elim) (fun W hW => by
    have hb : Below w.heap.size w { w with heap := W.heap } → True := fun _ => trivial
    have hg := World.block_lt_of_cell? w _ h
    have e := hW gm id hg
    unfold World.cell? at h ⊢
    rw [← h]
    simp only [e])
  obtain ⟨kind, frm, lo, hi, held, hops, good, ref, slo, shi, pulse, st, sn, A, n, c, age⟩ := x
  simp only [encH]
  clear h
  go_enter Tryz.func27, Tryz.ntmps27
  go_wp2_with (first
    | ((with_reducible refine gate_dst (N := 8) rfl ?_); refine load_cell rfl rfl rfl Tryz.underlying3 rfl H.now ?_)
    | ((with_reducible refine gate_dst (N := 2) rfl ?_); refine fr_box H rfl rfl rfl ?_; intro g2 w2 H1; replace H := H1; clear H1)
    | ((with_reducible refine gate_dst (N := 6) rfl ?_); refine fr_get H rfl rfl rfl (by repeat (first | exact At.head | apply At.tail)) Tryz.underlying3 rfl (by simp only [List.getElem?_toArray, List.getElem?_cons_succ, List.getElem?_cons_zero]; rfl) ?_)
    | ((with_reducible refine gate_dst (N := 8) rfl ?_); refine fr_get H rfl rfl rfl (by repeat (first | exact At.head | apply At.tail)) Tryz.underlying3 rfl (by simp only [List.getElem?_toArray, List.getElem?_cons_succ, List.getElem?_cons_zero]; rfl) ?_)
    | fail)
  go_ret
  exact ⟨rfl, H.below⟩
set_option maxRecDepth 100000 in
set_option maxHeartbeats 4000000 in
theorem IndexH_calls (A : Option Addr) (c : Nat) (l : List Hd) (gm : Nat) (mf : Int) (w : World) (hr : RowH w A l) (hl : l.length ≤ 9223372036854775807) (hm : w.cell? ⟨gm, 1, none⟩ = some (.int .i64 mf)) :
    Calls Tryz.prog 56 #[.slice A l.length c, .func (.func 27) #[] #[.pointer (some ⟨gm, 0, none⟩)]] w fun e w' => ∃ i : Int, e = .returned (.int .i64 i) ∧ Hid (decide (0 ≤ i) = l.any (fun x => x.frm == mf)) ∧ Hid (Below w.heap.size w w') := by
  have R := Lib.hid hr
  have HM := Lib.hid hm
  obtain ⟨n, hn⟩ : ∃ n, l.length = n := ⟨_, rfl⟩
  have HN := Lib.hid hn
  rw [hn] at hl ⊢
  clear hr hn hm
  go_enter Tryz.func56, Tryz.ntmps56
  go_wp2
  go_loopw [8] (fun v8 wr => ∃ k : Nat, k ≤ n ∧ v8 = .int .i64 k ∧ Hid (∀ x ∈ l.take k, (x.frm == mf) = false) ∧ Hid (Below w.heap.size w wr)) (fun v8 _ => n - (intOf v8).toNat)
  case atStart => exact ⟨0, by omega, rfl, Lib.hid (fun x hx => by simp at hx), Lib.hid (Below.refl _ _)⟩
  case round =>
    obtain ⟨k, hk, rfl, HQ, HB⟩ := hrel
    by_cases hlt : k < n
    · have hkl : k < l.length := by rw [HN.out]; exact hlt
      have hk1 : (k : Int) < (n : Int) := by omega
      have hs1 : -9223372036854775808 ≤ (k : Int) + 1 := by omega
      have hs2 : (k : Int) + 1 ≤ 9223372036854775807 := by omega
      obtain ⟨x, hx⟩ : ∃ x, l[k] = x := ⟨_, rfl⟩
      obtain ⟨ad, e, hc⟩ := (R.out.below HB.out) k hkl
      cases e
      rw [hx] at hc
      have HC := Lib.hid hc
      have HX : Hid (l.take (k + 1) = l.take k ++ [x]) := Lib.hid (by rw [List.take_succ_eq_append_getElem hkl, hx])
      have HME : Hid (x ∈ l) := Lib.hid (hx ▸ List.getElem_mem hkl)
      obtain ⟨b, hb⟩ : ∃ b, (x.frm == mf) = b := ⟨_, rfl⟩
      have HB2 := Lib.hid hb
      have HD : Hid (∀ W, Below w.heap.size w W → Calls Tryz.prog 27 #[.agg (encH x).toArray, .pointer (some ⟨gm, 0, none⟩)] W fun e w' => e = .returned (.bool b) ∧ Below W.heap.size W w') := Lib.hid (fun W h => hb ▸ Told1_calls x gm mf W (pw_cell_below h HM.out))
      have HLE : Hid ((encH x).length = 15) := Lib.hid rfl
      generalize encH x = cs at HC HD HLE
      clear hx hb hc
      cases b with
      | false =>
        go_wp2_with (first
          | ((with_reducible refine gate_dst (N := 15) rfl ?_); refine load_cells rfl rfl (ad := ad.add (k * 15)) (cs := cs) ?hx Tryz.underlying49 rfl (by rw [HLE.out]; kernel_rfl) HC.out ?_; (case hx => first | rfl | (go_simp; done) | (go_simp; rfl))))
        refine (HD.out _ HB.out).mono ?_
        rintro e w' ⟨rfl, hb⟩
        go_wp2
        go_roundw
        case rel => exact ⟨k + 1, by omega, by simp, Lib.hid (fun y hy => by
          rw [HX.out] at hy
          rcases List.mem_append.1 hy with hy | hy
          · exact HQ.out y hy
          · rw [List.mem_singleton.1 hy]; exact HB2.out), Lib.hid (HB.out.trans (hb.mono HB.out.size))⟩
        case measure => simp [intOf]; omega
      | true =>
        go_wp2_with (first
          | ((with_reducible refine gate_dst (N := 15) rfl ?_); refine load_cells rfl rfl (ad := ad.add (k * 15)) (cs := cs) ?hx Tryz.underlying49 rfl (by rw [HLE.out]; kernel_rfl) HC.out ?_; (case hx => first | rfl | (go_simp; done) | (go_simp; rfl))))
        refine (HD.out _ HB.out).mono ?_
        rintro e w' ⟨rfl, hb⟩
        go_wp2
        go_ret
        refine ⟨_, rfl, Lib.hid ?_, Lib.hid (HB.out.trans (hb.mono HB.out.size))⟩
        rw [List.any_eq_true.2 ⟨x, HME.out, HB2.out⟩]
        exact decide_eq_true (Int.natCast_nonneg k)
    · obtain rfl : k = n := by omega
      go_wp2
      go_ret
      refine ⟨_, rfl, Lib.hid ?_, HB⟩
      have : l.any (fun x => x.frm == mf) = false := List.any_eq_false.2 (fun x hx => by rw [HQ.out x (by rw [List.take_of_length_le (by rw [HN.out]; exact Nat.le_refl _)]; exact hx)]; simp)
      rw [this]
      rfl
set_option maxRecDepth 100000 in
set_option maxHeartbeats 4000000 in
theorem ContainsH_calls (A : Option Addr) (c : Nat) (l : List Hd) (gm : Nat) (mf : Int) (w : World) (hr : RowH w A l) (hl : l.length ≤ 9223372036854775807) (hm : w.cell? ⟨gm, 1, none⟩ = some (.int .i64 mf)) :
    Calls Tryz.prog 26 #[.slice A l.length c, .func (.func 27) #[] #[.pointer (some ⟨gm, 0, none⟩)]] w fun e w' => e = .returned (.bool (l.any (fun x => x.frm == mf))) ∧ Below w.heap.size w w' := by
  have HI := Lib.hid (IndexH_calls A c l gm mf w hr hl hm)
  obtain ⟨n, hn⟩ : ∃ n, l.length = n := ⟨_, rfl⟩
  obtain ⟨b, hb⟩ : ∃ b, l.any (fun x => x.frm == mf) = b := ⟨_, rfl⟩
  rw [hn, hb] at HI
  rw [hn, hb]
  clear hr hl hm hn hb
  go_enter Tryz.func26, Tryz.ntmps26
  go_wp2_with (go_at_call 56; refine HI.out.mono ?_; rintro e w1 ⟨i, rfl, H1, HB⟩)
  go_ret
  exact ⟨by rw [← H1.out]; first | done | rfl, HB.out⟩
end Go.Proofs.YtbmfgcekglgliaaGreat.G

namespace Go.Proofs.YtbmfgcekglgliaaGreat.G
open Go.RowKit Go.Proofs.YtbmfgcekglgliaaGreatW.PrintWords Go.Proofs.YtbmfgcekglgliaaGreatW.PrintLast Go.Proofs.YtbmfgcekglgliaaGreatW.PrintMore Go.Proofs.YtbmfgcekglgliaaGreatPl
set_option linter.unusedVariables false
set_option linter.unusedSimpArgs false
theorem RClip_calls (x : Int) (w : World) : Calls Tryz.prog 21 #[.int .i64 x] w fun e w' => e = .returned (.int .i64 (clip x)) ∧ w' = w := by
  have hc : clip x = if x < -2305843009213693952 then -2305843009213693952 else if x > 2305843009213693952 then 2305843009213693952 else x := rfl
  by_cases h1 : 2305843009213693952 < x
  · have hb := Lib.hid (show clip x = 2305843009213693952 by rw [hc, if_neg (by omega), if_pos h1])
    have d1 : decide (2305843009213693952 < x) = true := decide_eq_true h1
    clear h1 hc
    go_enter Tryz.func21, Tryz.ntmps21
    go_wp2
    go_ret
    exact ⟨(by rw [hb.out]; try rfl), rfl⟩
  · have d1 : decide (2305843009213693952 < x) = false := decide_eq_false h1
    by_cases h2 : x < -2305843009213693952
    · have hb := Lib.hid (show clip x = -2305843009213693952 by rw [hc, if_pos h2])
      have d2 : decide (x < -2305843009213693952) = true := decide_eq_true h2
      clear h1 h2 hc
      go_enter Tryz.func21, Tryz.ntmps21
      go_wp2
      go_ret
      exact ⟨(by rw [hb.out]; try rfl), rfl⟩
    · have hb := Lib.hid (show clip x = x by rw [hc, if_neg h2, if_neg h1])
      have d2 : decide (x < -2305843009213693952) = false := decide_eq_false h2
      clear h1 h2 hc
      go_enter Tryz.func21, Tryz.ntmps21
      go_wp2
      go_ret
      exact ⟨(by rw [hb.out]; try rfl), rfl⟩
set_option maxHeartbeats 1000000 in
theorem RBound_calls (x lo hi : Int) (w : World) : Calls Tryz.prog 22 #[.int .i64 x, .int .i64 lo, .int .i64 hi] w fun e w' => e = .returned (.int .i64 (bound x lo hi)) ∧ w' = w := by
  by_cases h2 : hi < lo
  · have hb := Lib.hid (show bound x lo hi = lo by unfold bound; rw [if_pos (.inr h2)])
    have d2 : decide (hi < lo) = true := decide_eq_true h2
    clear h2
    go_enter Tryz.func22, Tryz.ntmps22
    go_wp2
    go_ret
    exact ⟨(by rw [hb.out]; try rfl), rfl⟩
  · by_cases h1 : x < lo
    · have hb := Lib.hid (show bound x lo hi = lo by unfold bound; rw [if_pos (.inl h1)])
      have d1 : decide (x < lo) = true := decide_eq_true h1
      have d2 : decide (hi < lo) = false := decide_eq_false h2
      clear h1 h2
      go_enter Tryz.func22, Tryz.ntmps22
      go_wp2
      go_ret
      exact ⟨(by rw [hb.out]; try rfl), rfl⟩
    · have d1 : decide (x < lo) = false := decide_eq_false h1
      have d2 : decide (hi < lo) = false := decide_eq_false h2
      by_cases h3 : hi < x
      · have hb := Lib.hid (show bound x lo hi = hi by unfold bound; rw [if_neg (by omega), if_pos h3])
        have d3 : decide (hi < x) = true := decide_eq_true h3
        clear h1 h2 h3
        go_enter Tryz.func22, Tryz.ntmps22
        go_wp2
        go_ret
        exact ⟨(by rw [hb.out]; try rfl), rfl⟩
      · have hb := Lib.hid (show bound x lo hi = x by unfold bound; rw [if_neg (by omega), if_neg (by omega)])
        have d3 : decide (hi < x) = false := decide_eq_false h3
        clear h1 h2 h3
        go_enter Tryz.func22, Tryz.ntmps22
        go_wp2
        go_ret
        exact ⟨(by rw [hb.out]; try rfl), rfl⟩
set_option maxHeartbeats 1000000 in
theorem RSub_calls (x y : Int) (w : World) : Calls Tryz.prog 70 #[.int .i64 x, .int .i64 y] w fun e w' => e = .returned (.int .i64 (ssub x y)) ∧ w' = w := by
  have h1 := (clip_bd x).1
  have h2 := (clip_bd x).2
  have h3 := (clip_bd y).1
  have h4 := (clip_bd y).2
  have hn := Lib.hid (show ssub x y = clip (clip x - clip y) from rfl)
  go_enter Tryz.func70, Tryz.ntmps70
  go_wp2_with (go_at_call 21; refine (RClip_calls _ _).mono ?_; rintro e w' ⟨rfl, rfl⟩)
  go_ret
  exact ⟨(by rw [hn.out]; try rfl), rfl⟩
set_option maxHeartbeats 1000000 in
theorem RAdd_calls (A : Option Addr) (c : Nat) (l : List Int) (w : World) (hr : Kd.C (Kd.int .i64) w A l.length l) :
    Calls Tryz.prog 23 #[.slice A l.length c] w fun e w' => e = .returned (.int .i64 (sadd l)) ∧ w' = w := by
  have R := Lib.hid hr
  have hm : l.length ≤ 9223372036854775807 := hr.2.1
  obtain ⟨n, hn⟩ : ∃ n, l.length = n := ⟨_, rfl⟩
  have HN := Lib.hid hn
  rw [hn] at hm ⊢
  clear hr hn
  go_enter Tryz.func23, Tryz.ntmps23
  go_wp2
  go_loop [3, 8] (fun v3 v8 => ∃ k : Nat, k ≤ n ∧ v8 = .int .i64 k ∧ v3 = .int .i64 (sadd (l.take k))) (fun _ v8 => n - (intOf v8).toNat)
  case atStart => exact ⟨0, by omega, rfl, rfl⟩
  case round =>
    obtain ⟨k, hk, rfl, rfl⟩ := hrel
    have hb1 := (sadd_bd (l.take k)).1
    have hb2 := (sadd_bd (l.take k)).2
    by_cases hlt : k < n
    · have hkl : k < l.length := by rw [HN.out]; exact hlt
      have hk1 : (k : Int) < (n : Int) := by omega
      have hs1 : -9223372036854775808 ≤ (k : Int) + 1 := by omega
      have hs2 : (k : Int) + 1 ≤ 9223372036854775807 := by omega
      obtain ⟨ad, e, hc⟩ := Kd.at_int R.out (k : Int) (by omega) (by omega)
      cases e
      rw [getD_cell hkl, Int.toNat_natCast] at hc
      have HT := Lib.hid (show sadd (l.take (k + 1)) = clip (sadd (l.take k) + clip l[k]) by rw [List.take_succ_eq_append_getElem hkl, sadd_snoc])
      have hc1 := (clip_bd l[k]).1
      have hc2 := (clip_bd l[k]).2
      generalize sadd (l.take k) = s at hb1 hb2 HT ⊢
      generalize l[k] = x at hc HT hc1 hc2
      go_wp2_with (go_at_call 21; refine (RClip_calls _ _).mono ?_; rintro e w' ⟨rfl, rfl⟩)
      go_round
      case rel => exact ⟨k + 1, by omega, by simp, by rw [HT.out]⟩
      case measure => simp [intOf]; omega
    · obtain rfl : k = n := by omega
      have HT := Lib.hid (show sadd l = sadd (l.take k) by rw [List.take_of_length_le (by rw [HN.out]; exact Nat.le_refl _)])
      go_wp2
      go_ret
      exact ⟨(by rw [HT.out]; try rfl), rfl⟩
set_option maxHeartbeats 1000000 in
theorem RMax_calls (A : Option Addr) (c : Nat) (l : List Int) (w : World) (hr : Kd.C (Kd.int .i64) w A l.length l) :
    Calls Tryz.prog 110 #[.slice A l.length c] w fun e w' => e = .returned (.int .i64 (smax l)) ∧ w' = w := by
  have R := Lib.hid hr
  have hm : l.length ≤ 9223372036854775807 := hr.2.1
  obtain ⟨n, hn⟩ : ∃ n, l.length = n := ⟨_, rfl⟩
  have HN := Lib.hid hn
  rw [hn] at hm ⊢
  clear hr hn
  go_enter Tryz.func110, Tryz.ntmps110
  go_wp2
  go_loop [3, 8] (fun v3 v8 => ∃ k : Nat, k ≤ n ∧ v8 = .int .i64 k ∧ v3 = .int .i64 (smax (l.take k))) (fun _ v8 => n - (intOf v8).toNat)
  case atStart => exact ⟨0, by omega, rfl, rfl⟩
  case round =>
    obtain ⟨k, hk, rfl, rfl⟩ := hrel
    by_cases hlt : k < n
    · have hkl : k < l.length := by rw [HN.out]; exact hlt
      have hk1 : (k : Int) < (n : Int) := by omega
      have hs1 : -9223372036854775808 ≤ (k : Int) + 1 := by omega
      have hs2 : (k : Int) + 1 ≤ 9223372036854775807 := by omega
      obtain ⟨ad, e, hc⟩ := Kd.at_int R.out (k : Int) (by omega) (by omega)
      cases e
      rw [getD_cell hkl, Int.toNat_natCast] at hc
      have HT := Lib.hid (show smax (l.take (k + 1)) = if smax (l.take k) < clip l[k] then clip l[k] else smax (l.take k) by rw [List.take_succ_eq_append_getElem hkl, smax_snoc])
      generalize smax (l.take k) = s at HT ⊢
      generalize l[k] = x at hc HT
      by_cases hx : s < clip x
      · have d1 : decide (s < clip x) = true := decide_eq_true hx
        rw [if_pos hx] at HT
        clear hx
        go_wp2_with (go_at_call 21; refine (RClip_calls _ _).mono ?_; rintro e w' ⟨rfl, rfl⟩)
        go_round
        case rel => exact ⟨k + 1, by omega, by simp, by rw [HT.out]; try rfl⟩
        case measure => simp [intOf]; omega
      · have d1 : decide (s < clip x) = false := decide_eq_false hx
        rw [if_neg hx] at HT
        clear hx
        go_wp2_with (go_at_call 21; refine (RClip_calls _ _).mono ?_; rintro e w' ⟨rfl, rfl⟩)
        go_round
        case rel => exact ⟨k + 1, by omega, by simp, by rw [HT.out]; try rfl⟩
        case measure => simp [intOf]; omega
    · obtain rfl : k = n := by omega
      have HT := Lib.hid (show smax l = smax (l.take k) by rw [List.take_of_length_le (by rw [HN.out]; exact Nat.le_refl _)])
      go_wp2
      go_ret
      exact ⟨(by rw [HT.out]; try rfl), rfl⟩
theorem clip_two (x : Int) : clip (2 * clip x) = clip (2 * x) := by unfold clip; repeat' split <;> omega
theorem clip_plus {x a : Int} (h : 0 ≤ a ∧ 0 ≤ x ∨ a ≤ 0 ∧ x ≤ 0) : clip (clip x + a) = clip (x + a) := by unfold clip; repeat' split <;> omega
theorem smul_clip (a b : Int) : smul a b = clip (clip a * clip b) := by
  unfold smul sabs sneg
  have ha := clip_bd a
  have hb := clip_bd b
  have sa : a < 0 → clip a < 0 := fun h => by unfold clip; repeat' split <;> omega
  have sa' : ¬ a < 0 → 0 ≤ clip a := fun h => by unfold clip; repeat' split <;> omega
  have sb : b < 0 → clip b < 0 := fun h => by unfold clip; repeat' split <;> omega
  have sb' : ¬ b < 0 → 0 ≤ clip b := fun h => by unfold clip; repeat' split <;> omega
  generalize clip a = x at *
  generalize clip b = y at *
  have key : ∀ u v : Int, 0 ≤ u → 0 ≤ v → (if u = 0 ∨ v ≤ 2305843009213693952 / u then u * v else 2305843009213693952) = clip (u * v) := by
    intro u v hu hv
    have hp : 0 ≤ u * v := Int.mul_nonneg hu hv
    by_cases h0 : u = 0
    · rw [if_pos (.inl h0)]; subst h0; simp; decide
    · by_cases h : v ≤ 2305843009213693952 / u
      · rw [if_pos (.inr h)]
        have : u * v ≤ u * (2305843009213693952 / u) := Int.mul_le_mul_of_nonneg_left h hu
        have h2 := Int.mul_ediv_self_le (x := 2305843009213693952) (k := u) h0
        unfold clip
        rw [if_neg (by omega), if_neg (by omega)]
      · rw [if_neg (by rintro (h1 | h1); exact h0 h1; exact h h1)]
        have h1 : 2305843009213693952 / u + 1 ≤ v := by omega
        have h2 : u * (2305843009213693952 / u + 1) ≤ u * v := Int.mul_le_mul_of_nonneg_left h1 hu
        have h3 := Int.lt_mul_ediv_self_add (x := 2305843009213693952) (k := u) (by omega)
        rw [Int.mul_add, Int.mul_one] at h2
        unfold clip
        rw [if_neg (by omega), if_pos (by omega)]
  have cneg : ∀ z : Int, clip (-z) = -clip z := fun z => by unfold clip; repeat' split <;> omega
  by_cases h1 : a < 0 <;> by_cases h2 : b < 0
  · have := sa h1; have := sb h2
    simp only [if_pos h1, if_pos h2, decide_eq_true h1, decide_eq_true h2, if_true]
    rw [key _ _ (by omega) (by omega), Int.neg_mul_neg]
  · have := sa h1; have := sb' h2
    simp only [if_pos h1, if_neg h2, decide_eq_true h1, decide_eq_false h2]
    rw [if_neg (by simp), key _ _ (by omega) (by omega), ← cneg, Int.neg_mul, Int.neg_neg]
  · have := sa' h1; have := sb h2
    simp only [if_neg h1, if_pos h2, decide_eq_false h1, decide_eq_true h2]
    rw [if_neg (by simp), key _ _ (by omega) (by omega), ← cneg, Int.mul_neg, Int.neg_neg]
  · have := sa' h1; have := sb' h2
    simp only [if_neg h1, if_neg h2, decide_eq_false h1, decide_eq_false h2, if_true]
    rw [key _ _ (by omega) (by omega)]
theorem dbl_bit (a y : Int) (k : Nat) (hy : 0 ≤ y) : clip (a * (y / 2 ^ k)) = (if (y / 2 ^ k) % 2 = 1 then clip (clip (2 * clip (a * (y / 2 ^ (k + 1)))) + a) else clip (2 * clip (a * (y / 2 ^ (k + 1))))) := by
  have e : y / 2 ^ (k + 1) = (y / 2 ^ k) / 2 := by rw [Int.pow_succ, ← Int.ediv_ediv_of_nonneg (Int.pow_nonneg (by decide))]
  have hz : 0 ≤ y / 2 ^ k := Int.ediv_nonneg hy (Int.pow_nonneg (by decide))
  rw [e]
  generalize y / 2 ^ k = z at hz
  rw [clip_two]
  have hs : 0 ≤ a ∧ 0 ≤ 2 * (a * (z / 2)) ∨ a ≤ 0 ∧ 2 * (a * (z / 2)) ≤ 0 := by
    have h2 : 0 ≤ z / 2 := by omega
    by_cases h : 0 ≤ a
    · exact .inl ⟨h, by have := Int.mul_nonneg h h2; omega⟩
    · exact .inr ⟨by omega, by have := Int.mul_nonneg (show 0 ≤ -a by omega) h2; rw [Int.neg_mul] at this; omega⟩
  by_cases h : z % 2 = 1
  · rw [if_pos h, clip_plus hs]
    congr 1
    rw [show a * z = a * (2 * (z / 2) + 1) by rw [show 2 * (z / 2) + 1 = z by omega], Int.mul_add, Int.mul_one, ← Int.mul_assoc, Int.mul_comm a 2, Int.mul_assoc]
  · rw [if_neg h]
    congr 1
    rw [show a * z = a * (2 * (z / 2)) by rw [show 2 * (z / 2) = z by omega], ← Int.mul_assoc, Int.mul_comm a 2, Int.mul_assoc]
theorem and_one {x : Int} (h0 : 0 ≤ x) (h1 : x < 9223372036854775808) : bits .and .i64 x 1 = x % 2 := by
  have := bits_mask .i64 63 (by decide) (fun n h0 h1 => by rw [IntKind.wrap_i64]; omega) 1 (by decide) x h0 (by simpa using h1)
  simpa using this
theorem div_pow_bd {y : Int} (k : Nat) (h0 : 0 ≤ y) (h1 : y ≤ 2305843009213693952) : 0 ≤ y / 2 ^ k ∧ y / 2 ^ k ≤ 2305843009213693952 :=
  ⟨Int.ediv_nonneg h0 (Int.pow_nonneg (by decide)), Int.le_trans (Int.ediv_le_self _ h0) h1⟩
set_option maxHeartbeats 4000000 in
set_option maxRecDepth 100000 in
theorem RMulP_calls (a b : Int) (hb0 : 0 ≤ clip b) (w : World) : Calls Tryz.prog 108 #[.int .i64 a, .int .i64 b] w fun e w' => e = .returned (.int .i64 (clip (clip a * clip b))) ∧ w' = w := by
  obtain ⟨x, hx⟩ : ∃ x, clip a = x := ⟨_, rfl⟩
  obtain ⟨y, hy⟩ : ∃ y, clip b = y := ⟨_, rfl⟩
  have hxb := clip_bd a
  have hyb := clip_bd b
  rw [hx] at hxb
  rw [hy] at hyb hb0
  have KA : Hid (∀ W, Calls Tryz.prog 21 #[.int .i64 a] W fun e w' => e = .returned (.int .i64 x) ∧ w' = W) := Lib.hid (fun W => hx ▸ RClip_calls a W)
  have KB : Hid (∀ W, Calls Tryz.prog 21 #[.int .i64 b] W fun e w' => e = .returned (.int .i64 y) ∧ w' = W) := Lib.hid (fun W => hy ▸ RClip_calls b W)
  have d0 : decide (y < 0) = false := decide_eq_false (by omega)
  have HY := Lib.hid (And.intro hb0 hyb.2)
  have HXB := Lib.hid hxb
  rw [hx, hy]
  clear hx hy hb0 hyb hxb
  go_enter Tryz.func108, Tryz.ntmps108
  go_wp2_with (first
    | (go_at_call 21; refine (KA.out _).mono ?_; rintro e w' ⟨rfl, rfl⟩)
    | (go_at_call 21; refine (KB.out _).mono ?_; rintro e w' ⟨rfl, rfl⟩)
    | fail)
  go_loop [5, 6] (fun v5 v6 => ∃ i : Int, -1 ≤ i ∧ i ≤ 61 ∧ v6 = .int .i64 i ∧ v5 = .int .i64 (clip (x * (y / 2 ^ (i + 1).toNat)))) (fun _ v6 => (intOf v6 + 1).toNat)
  case atStart =>
    refine ⟨61, by omega, by omega, rfl, ?_⟩
    have : y / 2 ^ ((61 : Int) + 1).toNat = 0 := by
      show y / 4611686018427387904 = 0
      have := HY.out
      omega
    rw [this, Int.mul_zero]
    rfl
  case round =>
    obtain ⟨i, hi0, hi1, rfl, rfl⟩ := hrel
    by_cases hi : 0 ≤ i
    · obtain ⟨k, rfl⟩ := Int.eq_ofNat_of_zero_le hi
      have hk : k ≤ 61 := by omega
      have hD := Lib.hid (dbl_bit x y k HY.out.1)
      have e1 : (((k : Nat) : Int) + 1).toNat = k + 1 := by omega
      rw [e1]
      obtain ⟨n, hn⟩ : ∃ n, clip (x * (y / 2 ^ (k + 1))) = n := ⟨_, rfl⟩
      have hnb := clip_bd (x * (y / 2 ^ (k + 1)))
      rw [hn] at hnb
      have hD2 : Hid (clip (x * (y / 2 ^ k)) = if (y / 2 ^ k) % 2 = 1 then clip (clip (2 * n) + x) else clip (2 * n)) := Lib.hid (hn ▸ hD.out)
      have hz := div_pow_bd k HY.out.1 HY.out.2
      obtain ⟨z, hz2⟩ : ∃ z, y / 2 ^ k = z := ⟨_, rfl⟩
      have ez : y / 2 ^ ((k : Int)).toNat = z := by rw [Int.toNat_natCast]; exact hz2
      rw [hz2] at hz
      have hD3 : Hid (clip (x * (y / 2 ^ k)) = if z % 2 = 1 then clip (clip (2 * n) + x) else clip (2 * n)) := Lib.hid (hz2 ▸ hD2.out)
      have hand := and_one (x := z) (by omega) (by omega)
      have hcb := clip_bd (2 * n)
      have hc1 := hcb.1
      have hc2 := hcb.2
      have hx1 := HXB.out.1
      have hx2 := HXB.out.2
      have hn1 := hnb.1
      have hn2 := hnb.2
      have hk1 : (k : Int) ≤ 61 := by omega
      rw [hn]
      clear hD hn hD2 hnb hcb
      by_cases hb : z % 2 = 1
      · have db : (z % 2 == 1) = true := by simp [hb]
        have HD := Lib.hid (hD3.out.trans (if_pos hb))
        clear hb hD3
        go_wp2_with (go_at_call 21; refine (RClip_calls _ _).mono ?_; rintro e w' ⟨rfl, rfl⟩)
        go_round
        case rel => exact ⟨(k : Int) - 1, by omega, by omega, by simp, by rw [show ((k : Int) - 1 + 1).toNat = k by omega, HD.out]⟩
        case measure => simp [intOf] <;> omega
      · have db : (z % 2 == 1) = false := by simp [hb]
        have HD := Lib.hid (hD3.out.trans (if_neg hb))
        clear hb hD3
        go_wp2_with (go_at_call 21; refine (RClip_calls _ _).mono ?_; rintro e w' ⟨rfl, rfl⟩)
        go_round
        case rel => exact ⟨(k : Int) - 1, by omega, by omega, by simp, by rw [show ((k : Int) - 1 + 1).toNat = k by omega, HD.out]⟩
        case measure => simp [intOf] <;> omega
    · obtain rfl : i = -1 := by omega
      have HT := Lib.hid (show clip (x * (y / 2 ^ ((-1 : Int) + 1).toNat)) = clip (x * y) by show clip (x * (y / 1)) = _; rw [Int.ediv_one])
      go_wp2
      go_ret
      exact ⟨(by rw [← HT.out]; try rfl), rfl⟩
set_option maxHeartbeats 4000000 in
set_option maxRecDepth 100000 in
theorem RMul_calls (a b : Int) (w : World) : Calls Tryz.prog 108 #[.int .i64 a, .int .i64 b] w fun e w' => e = .returned (.int .i64 (smul a b)) ∧ w' = w := by
  rw [smul_clip]
  by_cases hb0 : 0 ≤ clip b
  · exact RMulP_calls a b hb0 w
  · have hcc : clip (clip a) = clip a := clip_clip a
    obtain ⟨x, hx⟩ : ∃ x, clip a = x := ⟨_, rfl⟩
    obtain ⟨y, hy⟩ : ∃ y, clip b = y := ⟨_, rfl⟩
    have hxb := clip_bd a
    have hyb := clip_bd b
    rw [hx] at hxb hcc
    rw [hy] at hyb hb0
    have hcn : clip (-y) = -y := by unfold clip; repeat' split <;> omega
    have KA : Hid (∀ W, Calls Tryz.prog 21 #[.int .i64 a] W fun e w' => e = .returned (.int .i64 x) ∧ w' = W) := Lib.hid (fun W => hx ▸ RClip_calls a W)
    have KB : Hid (∀ W, Calls Tryz.prog 21 #[.int .i64 b] W fun e w' => e = .returned (.int .i64 y) ∧ w' = W) := Lib.hid (fun W => hy ▸ RClip_calls b W)
    have e0 : IntKind.i64.wrap (-y) = -y := by rw [IntKind.wrap_i64]; omega
    obtain ⟨r, hr⟩ : ∃ r, clip (x * -y) = r := ⟨_, rfl⟩
    have hrb := clip_bd (x * -y)
    rw [hr] at hrb
    have e1 : IntKind.i64.wrap (-r) = -r := by rw [IntKind.wrap_i64]; omega
    have HR : Hid (clip (x * y) = -r) := Lib.hid (by rw [← hr, Int.mul_neg]; unfold clip; repeat' split <;> omega)
    have KM : Hid (∀ W, Calls Tryz.prog 108 #[.int .i64 x, .int .i64 (-y)] W fun e w' => e = .returned (.int .i64 r) ∧ w' = W) := Lib.hid (fun W => by
      have := RMulP_calls x (-y) (by rw [hcn]; omega) W
      rw [hcc, hcn, hr] at this
      exact this)
    have d0 : decide (y < 0) = true := decide_eq_true (by omega)
    rw [hx, hy]
    clear hx hy hcc hcn hr hb0 hxb
    obtain ⟨hyb1, hyb2⟩ := hyb
    obtain ⟨hrb1, hrb2⟩ := hrb
    go_enter Tryz.func108, Tryz.ntmps108
    go_wp2_with (first
      | (go_at_call 21; refine (KA.out _).mono ?_; rintro e w' ⟨rfl, rfl⟩)
      | (go_at_call 21; refine (KB.out _).mono ?_; rintro e w' ⟨rfl, rfl⟩)
      | (go_at_call 108; refine (KM.out _).mono ?_; rintro e w' ⟨rfl, rfl⟩)
      | fail)
    go_ret
    exact ⟨(by rw [HR.out]; try rfl), rfl⟩
theorem RAdd2 {x t : Nat} {a b : Int} {w : World} (h : w.heap[x]? = some (.cells #[.int .i64 a, .int .i64 b] t (0, 0))) : Calls Tryz.prog 23 #[.slice (some ⟨x, 0, none⟩) 2 2] w fun e w' => e = .returned (.int .i64 (sadd [a, b])) ∧ Below w.heap.size w w' :=
  (RAdd_calls (some ⟨x, 0, none⟩) 2 [a, b] w (Go.Proofs.YtbmfgcekglgliaaGreatKr.ints_of_block (l := [a, b]) h (by show _ ≤ _; simp))).mono fun e w' ⟨h1, h2⟩ => ⟨h1, h2 ▸ Below.refl _ _⟩
theorem RAdd3 {x t : Nat} {a b c : Int} {w : World} (h : w.heap[x]? = some (.cells #[.int .i64 a, .int .i64 b, .int .i64 c] t (0, 0))) : Calls Tryz.prog 23 #[.slice (some ⟨x, 0, none⟩) 3 3] w fun e w' => e = .returned (.int .i64 (sadd [a, b, c])) ∧ Below w.heap.size w w' :=
  (RAdd_calls (some ⟨x, 0, none⟩) 3 [a, b, c] w (Go.Proofs.YtbmfgcekglgliaaGreatKr.ints_of_block (l := [a, b, c]) h (by show _ ≤ _; simp))).mono fun e w' ⟨h1, h2⟩ => ⟨h1, h2 ▸ Below.refl _ _⟩
theorem RMax2 {x t : Nat} {a b : Int} {w : World} (h : w.heap[x]? = some (.cells #[.int .i64 a, .int .i64 b] t (0, 0))) : Calls Tryz.prog 110 #[.slice (some ⟨x, 0, none⟩) 2 2] w fun e w' => e = .returned (.int .i64 (smax [a, b])) ∧ Below w.heap.size w w' :=
  (RMax_calls (some ⟨x, 0, none⟩) 2 [a, b] w (Go.Proofs.YtbmfgcekglgliaaGreatKr.ints_of_block (l := [a, b]) h (by show _ ≤ _; simp))).mono fun e w' ⟨h1, h2⟩ => ⟨h1, h2 ▸ Below.refl _ _⟩
end Go.Proofs.YtbmfgcekglgliaaGreat.G

namespace Go.Proofs.YtbmfgcekglgliaaGreat.G
open Go.RowKit Go.Proofs.YtbmfgcekglgliaaGreatW.PrintWords Go.Proofs.YtbmfgcekglgliaaGreatW.PrintLast Go.Proofs.YtbmfgcekglgliaaGreatW.PrintMore Go.Proofs.YtbmfgcekglgliaaGreatPl Go.Proofs.YtbmfgcekglgliaaGreatEm Go.Proofs.YtbmfgcekglgliaaGreatKr
set_option linter.unusedVariables false
set_option linter.unusedSimpArgs false
set_option maxHeartbeats 2000000 in
set_option maxRecDepth 100000 in
theorem RShift_calls (a b lo hi : Int) (w : World) : Calls Tryz.prog 71 #[.agg #[.int .i64 a, .int .i64 b], .int .i64 lo, .int .i64 hi] w fun e w' => e = .returned (.agg #[.int .i64 (sadd [a, lo]), .int .i64 (sadd [b, hi])]) ∧ Below w.heap.size w w' := by
  have H := Fr.start0 (M := fun _ => False) (A := fun _ => False) (w := w) (p := fun _ => True) (fun _ h => h.elim) (fun _ _ => trivial)
  go_enter Tryz.func71, Tryz.ntmps71
  go_wp2_with (first
    | ((with_reducible refine gate_dst (N := 3) rfl ?_); refine fr_box H rfl rfl rfl ?_; intro g3 w3 H1; replace H := H1; clear H1)
    | ((with_reducible refine gate_dst (N := 6) rfl ?_); refine fr_new H (N := 6) rfl rfl (cs := #[.int .i64 0, .int .i64 0]) (t := 25) ?hr ?_; (case hr => first | (go_simp; done) | (go_simp; rfl)); intro g6 w6 H1; replace H := H1; clear H1)
    | fail)
  refine ko_region1 H (by simp only [List.length_cons, List.length_nil, Nat.reduceAdd]; rfl) (g := g6) (by repeat (first | exact Take.head | apply Take.tail)) (by kernel_rfl) (by as_aux_lemma => kernel_rfl) (fun HR => ?_)
  repeat (first
    | ((with_reducible refine kg_call (f := 23) rfl ?_); refine ko_call 23 _ rfl (by rfl) Tryz.func23 (by kernel_rfl) rfl (by kernel_rfl) (by simp only [List.map_toArray, List.map_cons, List.map_nil]; rfl) (fun W hC hd => RAdd2 (by first | exact depH.hd hd (by kernel_rfl) | exact depH.hd (depH.tl hd) (by kernel_rfl) | exact depH.hd (depH.tl (depH.tl hd)) (by kernel_rfl))) ?_; (try simp only [Act.put, lsA, lsZ, lsS, Nat.reduceAdd]))
    | ((with_reducible refine kg_call (f := 23) rfl ?_); refine ko_call 23 _ rfl (by rfl) Tryz.func23 (by kernel_rfl) rfl (by kernel_rfl) (by simp only [List.map_toArray, List.map_cons, List.map_nil]; rfl) (fun W hC hd => RAdd3 (by first | exact depH.hd hd (by kernel_rfl) | exact depH.hd (depH.tl hd) (by kernel_rfl) | exact depH.hd (depH.tl (depH.tl hd)) (by kernel_rfl))) ?_; (try simp only [Act.put, lsA, lsZ, lsS, Nat.reduceAdd]))
    | ((with_reducible refine kg_load (ty := 3) rfl ?_); refine ko_get HR rfl (by rfl) (by rfl) (by repeat (first | exact At.head | apply At.tail)) Tryz.underlying3 rfl (by simp only [List.getElem?_toArray, List.getElem?_cons_succ, List.getElem?_cons_zero]; rfl) ?_; (try simp only [Act.put, lsA, lsZ, lsS, Nat.reduceAdd]))
    | ((with_reducible refine kg_dst (N := 10) rfl ?_); refine ko_row rfl (by rfl) (fun W K hK => by go_simp; exact hK.out) ?_; intro x10; (try simp only [Act.put, lsA, lsZ, lsS, Nat.reduceAdd]))
    | ((with_reducible refine kg_dst (N := 15) rfl ?_); refine ko_row rfl (by rfl) (fun W K hK => by go_simp; exact hK.out) ?_; intro x15; (try simp only [Act.put, lsA, lsZ, lsS, Nat.reduceAdd]))
    | ((with_reducible refine kg_store (ty := 25) rfl ?_); refine ko_put (u := .agg (List.toArray _)) rfl rfl (by rfl) (by rfl) (by rfl) (by repeat (first | exact VarAt.head | apply VarAt.tail)) (by kernel_rfl) (Nat.le_of_ble_eq_true rfl) (by simp only [Value.cells, List.take_succ_cons, List.take_zero, List.drop_succ_cons, List.drop_zero, List.cons_append, List.nil_append, List.length_cons, List.length_nil, Nat.reduceAdd, List.append_nil, List.drop_nil, List.take_nil]; rfl) (by repeat (first | exact VarAt.head | apply VarAt.tail)) (by simp [apartR, Value.cells]) (by kernel_rfl) (by simp [Value.cells, Value.oneCell']) ?_; (try simp only [Value.cells, List.length_cons, List.length_nil, Nat.reduceAdd]))
    | (refine ko_pure rfl (by rfl) (fun W K hK => by go_simp; exact hK.out) ?_; (try simp only [Act.put, lsA, lsZ, lsS, Nat.reduceAdd]))
    | (refine ko_off (by rfl) ?_; (try simp only [Act.put, lsA, lsZ, lsS, Nat.reduceAdd])))
  refine ko_end ?_
  intro w1 H1
  clear HR H
  have H := H1
  clear H1
  (try simp only [List.map_cons, List.map_nil, cv, List.cons_append, List.nil_append] at H)
  go_wp2
  refine bodyPost_ret (results_c rfl _ _ g6 25 _ (0, 0) _ rfl (H.of (by repeat (first | exact At.head | apply At.tail))) Tryz.underlying25 rfl (by kernel_rfl)) rfl ?_
  exact ⟨rfl, H.below⟩
theorem RSpanOf_calls (a b : Int) (w : World) : Calls Tryz.prog 20 #[.int .i64 a, .int .i64 b] w fun e w' => e = .returned (.agg #[.int .i64 (clip a), .int .i64 (clip b)]) ∧ Below w.heap.size w w' := by
  have H := Fr.start0 (M := fun _ => False) (A := fun _ => False) (w := w) (p := fun _ => True) (fun _ h => h.elim) (fun _ _ => trivial)
  go_enter Tryz.func20, Tryz.ntmps20
  go_wp2_with (first
    | ((with_reducible refine gate_dst (N := 4) rfl ?_); refine fr_new H (N := 4) rfl rfl (cs := #[.int .i64 0, .int .i64 0]) (t := 25) ?hr ?_; (case hr => first | (go_simp; done) | (go_simp; rfl)); intro g4 w4 H1; replace H := H1; clear H1)
    | ((with_reducible refine gate_store (t := 25) (p := 4) rfl ?_); refine fr_put H rfl rfl rfl rfl rfl (by repeat (first | exact At.head | apply At.tail)) (by rfl) (by kernel_rfl) (by simp [Value.oneCell']) ?_; intro w4_ H1; replace H := H1; clear H1)
    | (go_at_call 21; (with_reducible refine (RClip_calls _ _).mono ?_); rintro e w' ⟨rfl, rfl⟩)
    | fail)
  refine bodyPost_ret (results_c rfl _ _ g4 25 _ (0, 0) _ rfl (H.of (by repeat (first | exact At.head | apply At.tail))) Tryz.underlying25 rfl (by kernel_rfl)) rfl ?_
  exact ⟨rfl, H.below⟩
set_option maxHeartbeats 2000000 in
set_option maxRecDepth 100000 in
theorem RMid_calls (a b : Int) (w : World) : Calls Tryz.prog 78 #[.agg #[.int .i64 a, .int .i64 b]] w fun e w' => e = .returned (.int .i64 (midP a b)) ∧ Below w.heap.size w w' := by
  have h1 := (clip_bd a).1
  have h2 := (clip_bd a).2
  have h3 := (clip_bd b).1
  have h4 := (clip_bd b).2
  have HM := Lib.hid (show midP a b = (clip a + clip b) / 2 from rfl)
  obtain ⟨s, hs⟩ : ∃ s, clip a + clip b = s := ⟨_, rfl⟩
  have e1 : IntKind.i64.wrap (clip a + clip b) = s := by rw [IntKind.wrap_i64]; omega
  have HMS : Hid (midP a b = s / 2) := Lib.hid (by rw [HM.out, hs])
  have hb1 : -4611686018427387904 ≤ s := by omega
  have hb2 : s ≤ 4611686018427387904 := by omega
  clear h1 h2 h3 h4 HM hs
  have hq := tdown (a := s) (c := 2) (by omega)
  have H := Fr.start0 (M := fun _ => False) (A := fun _ => False) (w := w) (p := fun _ => True) (fun _ h => h.elim) (fun _ _ => trivial)
  go_enter Tryz.func78, Tryz.ntmps78
  go_wp2_with (first
    | ((with_reducible refine gate_dst (N := 1) rfl ?_); refine fr_box H rfl rfl rfl ?_; intro g1 w1 H1; replace H := H1; clear H1)
    | fail)
  refine ko_region0 H (by kernel_rfl) (by as_aux_lemma => kernel_rfl) (fun HR => ?_)
  repeat (first
    | ((with_reducible refine kg_call (f := 21) rfl ?_); refine ko_call 21 _ rfl (by rfl) Tryz.func21 (by kernel_rfl) rfl (by kernel_rfl) (by simp only [List.map_toArray, List.map_cons, List.map_nil]; rfl) (fun W hC hd => ret_below (RClip_calls _ _)) ?_; (try simp only [Act.put, lsA, lsZ, lsS, Nat.reduceAdd]))
    | ((with_reducible refine kg_load (ty := 3) rfl ?_); refine ko_get HR rfl (by rfl) (by rfl) (by repeat (first | exact At.head | apply At.tail)) Tryz.underlying3 rfl (by simp only [List.getElem?_toArray, List.getElem?_cons_succ, List.getElem?_cons_zero]; rfl) ?_; (try simp only [Act.put, lsA, lsZ, lsS, Nat.reduceAdd]))
    | (refine ko_pure rfl (by rfl) (fun W K hK => by go_simp; exact hK.out) ?_; (try simp only [Act.put, lsA, lsZ, lsS, Nat.reduceAdd]))
    | (refine ko_off (by rfl) ?_; (try simp only [Act.put, lsA, lsZ, lsS, Nat.reduceAdd])))
  refine ko_end ?_
  intro w1 H1
  clear HR H
  have H := H1
  clear H1
  (try simp only [List.map_cons, List.map_nil, cv, List.cons_append, List.nil_append] at H)
  by_cases h0 : s.tmod 2 = 0
  · have d0 : (s.tmod 2 != 0) = false := by simp [h0]
    have e2 : s.tdiv 2 = s / 2 := by
      have h5 := (hq.2 (by omega)).1
      omega
    have HT := Lib.hid (HMS.out.trans e2.symm)
    clear h0 hq e2
    go_wp2
    go_ret
    exact ⟨(by rw [HT.out]; try rfl), H.below⟩
  · have d0 : (s.tmod 2 != 0) = true := by simp [h0]
    obtain ⟨u, hu⟩ : ∃ u, s - 1 = u := ⟨_, rfl⟩
    have e3 : u.tdiv 2 = s / 2 := by
      have h6 := tdown (a := u) (c := 2) (by omega)
      have h7 : s % 2 = 1 := by
        rcases Int.emod_two_eq s with h | h
        · exfalso; apply h0; by_cases hn : s.tmod 2 < 0
          · have := (hq.1 hn).2; have := (tmod_bd (a := s) (c := 2) (by omega)); omega
          · have := (hq.2 (by omega)).2; omega
        · exact h
      by_cases hn : u.tmod 2 < 0
      · have := (h6.1 hn).1; have := (h6.1 hn).2; have := (tmod_bd (a := u) (c := 2) (by omega)); omega
      · have := (h6.2 hn).1; omega
    have HT : Hid (midP a b = (s - 1).tdiv 2) := Lib.hid (by rw [HMS.out, hu, e3])
    clear h0 hq e3 hu
    go_wp2
    go_ret
    exact ⟨(by rw [HT.out]; try rfl), H.below⟩
theorem RLadd_calls (a b : Int) (w : World) : Calls Tryz.prog 115 #[.int .i64 a, .int .i64 b] w fun e w' => e = .returned (.int .i64 (sadd [a, b])) ∧ Below w.heap.size w w' := by
  have H := Fr.start0 (M := fun _ => False) (A := fun _ => False) (w := w) (p := fun _ => True) (fun _ h => h.elim) (fun _ _ => trivial)
  go_enter Tryz.func115, Tryz.ntmps115
  go_wp2_with (first
    | ((with_reducible refine gate_dst (N := 7) rfl ?_); refine fr_rowv H (N := 7) rfl rfl (fun K hK => by go_simp; exact hK.out) ?_; intro x7 w7 H1; replace H := H1; clear H1)
    | (go_at_call 23; (with_reducible refine (RAdd2 (H.of At.head)).mono ?_); rintro e w' ⟨rfl, hb⟩; have H1 := H.call hb; clear hb; replace H := H1; clear H1)
    | fail)
  go_ret
  exact ⟨rfl, H.below⟩
set_option maxHeartbeats 4000000 in
set_option maxRecDepth 100000 in
theorem RHop_calls (p : Par) (w : World) : Calls Tryz.prog 117 #[.agg #[.int .i64 p.N, .int .i64 p.F, .int .i64 p.D, .int .i64 p.Be, .int .i64 p.Rho, .int .i64 p.De, .int .i64 p.Ji, .int .i64 p.Eps, .int .i64 p.Mu, .int .i64 p.Ho, .int .i64 p.Pu, .int .i64 p.Se]] w fun e w' => e = .returned (.int .i64 (hopP p)) ∧ Below w.heap.size w w' := by
  have H := Fr.start0 (M := fun _ => False) (A := fun _ => False) (w := w) (p := fun _ => True) (fun _ h => h.elim) (fun _ _ => trivial)
  go_enter Tryz.func117, Tryz.ntmps117
  go_wp2_with (first
    | ((with_reducible refine gate_dst (N := 1) rfl ?_); refine fr_box H rfl rfl rfl ?_; intro g1 w1 H1; replace H := H1; clear H1)
    | fail)
  refine ko_region0 H (by kernel_rfl) (by as_aux_lemma => kernel_rfl) (fun HR => ?_)
  repeat (first
    | ((with_reducible refine kg_call (f := 108) rfl ?_); refine ko_call 108 _ rfl (by rfl) Tryz.func108 (by kernel_rfl) rfl (by kernel_rfl) (by simp only [List.map_toArray, List.map_cons, List.map_nil]; rfl) (fun W hC hd => ret_below (RMul_calls _ _ _)) ?_; (try simp only [Act.put, lsA, lsZ, lsS, Nat.reduceAdd]))
    | ((with_reducible refine kg_call (f := 115) rfl ?_); refine ko_call 115 _ rfl (by rfl) Tryz.func115 (by kernel_rfl) rfl (by kernel_rfl) (by simp only [List.map_toArray, List.map_cons, List.map_nil]; rfl) (fun W hC hd => RLadd_calls _ _ _) ?_; (try simp only [Act.put, lsA, lsZ, lsS, Nat.reduceAdd]))
    | ((with_reducible refine kg_load (ty := 3) rfl ?_); refine ko_get HR rfl (by rfl) (by rfl) (by repeat (first | exact At.head | apply At.tail)) Tryz.underlying3 rfl (by simp only [List.getElem?_toArray, List.getElem?_cons_succ, List.getElem?_cons_zero]; rfl) ?_; (try simp only [Act.put, lsA, lsZ, lsS, Nat.reduceAdd]))
    | (refine ko_pure rfl (by rfl) (fun W K hK => by go_simp; exact hK.out) ?_; (try simp only [Act.put, lsA, lsZ, lsS, Nat.reduceAdd]))
    | (refine ko_off (by rfl) ?_; (try simp only [Act.put, lsA, lsZ, lsS, Nat.reduceAdd])))
  refine ko_end ?_
  intro w1 H1
  clear HR H
  have H := H1
  clear H1
  (try simp only [List.map_cons, List.map_nil, cv, List.cons_append, List.nil_append] at H)
  go_wp2
  go_ret
  exact ⟨rfl, H.below⟩
set_option maxHeartbeats 4000000 in
set_option maxRecDepth 100000 in
theorem RGate_calls (p : Par) (w : World) : Calls Tryz.prog 116 #[.agg #[.int .i64 p.N, .int .i64 p.F, .int .i64 p.D, .int .i64 p.Be, .int .i64 p.Rho, .int .i64 p.De, .int .i64 p.Ji, .int .i64 p.Eps, .int .i64 p.Mu, .int .i64 p.Ho, .int .i64 p.Pu, .int .i64 p.Se]] w fun e w' => e = .returned (.int .i64 (gateP p)) ∧ Below w.heap.size w w' := by
  have H := Fr.start0 (M := fun _ => False) (A := fun _ => False) (w := w) (p := fun _ => True) (fun _ h => h.elim) (fun _ _ => trivial)
  go_enter Tryz.func116, Tryz.ntmps116
  go_wp2_with (first
    | ((with_reducible refine gate_dst (N := 1) rfl ?_); refine fr_box H rfl rfl rfl ?_; intro g1 w1 H1; replace H := H1; clear H1)
    | fail)
  refine ko_region0 H (by kernel_rfl) (by as_aux_lemma => kernel_rfl) (fun HR => ?_)
  repeat (first
    | ((with_reducible refine kg_call (f := 108) rfl ?_); refine ko_call 108 _ rfl (by rfl) Tryz.func108 (by kernel_rfl) rfl (by kernel_rfl) (by simp only [List.map_toArray, List.map_cons, List.map_nil]; rfl) (fun W hC hd => ret_below (RMul_calls _ _ _)) ?_; (try simp only [Act.put, lsA, lsZ, lsS, Nat.reduceAdd]))
    | ((with_reducible refine kg_call (f := 115) rfl ?_); refine ko_call 115 _ rfl (by rfl) Tryz.func115 (by kernel_rfl) rfl (by kernel_rfl) (by simp only [List.map_toArray, List.map_cons, List.map_nil]; rfl) (fun W hC hd => RLadd_calls _ _ _) ?_; (try simp only [Act.put, lsA, lsZ, lsS, Nat.reduceAdd]))
    | ((with_reducible refine kg_call (f := 117) rfl ?_); refine ko_call 117 _ rfl (by rfl) Tryz.func117 (by kernel_rfl) rfl (by kernel_rfl) (by simp only [List.map_toArray, List.map_cons, List.map_nil]; rfl) (fun W hC hd => RHop_calls p _) ?_; (try simp only [Act.put, lsA, lsZ, lsS, Nat.reduceAdd]))
    | ((with_reducible refine kg_load (ty := 3) rfl ?_); refine ko_get HR rfl (by rfl) (by rfl) (by repeat (first | exact At.head | apply At.tail)) Tryz.underlying3 rfl (by simp only [List.getElem?_toArray, List.getElem?_cons_succ, List.getElem?_cons_zero]; rfl) ?_; (try simp only [Act.put, lsA, lsZ, lsS, Nat.reduceAdd]))
    | ((with_reducible refine kg_load (ty := 23) rfl ?_); refine ko_sub HR (n := 12) rfl (by rfl) (by rfl) (by repeat (first | exact At.head | apply At.tail)) Tryz.underlying23 rfl (by kernel_rfl) (by simp only [List.toList_toArray, List.drop_succ_cons, List.drop_zero, List.take_succ_cons, List.take_zero]; rfl) (by rfl) ?_; (try simp only [Act.put, lsA, lsZ, lsS, Nat.reduceAdd]))
    | (refine ko_pure rfl (by rfl) (fun W K hK => by go_simp; exact hK.out) ?_; (try simp only [Act.put, lsA, lsZ, lsS, Nat.reduceAdd]))
    | (refine ko_off (by rfl) ?_; (try simp only [Act.put, lsA, lsZ, lsS, Nat.reduceAdd])))
  refine ko_end ?_
  intro w1 H1
  clear HR H
  have H := H1
  clear H1
  (try simp only [List.map_cons, List.map_nil, cv, List.cons_append, List.nil_append] at H)
  go_wp2
  go_ret
  exact ⟨rfl, H.below⟩
theorem sadd_nest (a b c : Int) : sadd [sadd [a, b], c] = sadd [a, b, c] := by
  unfold sadd
  simp only [List.foldl_cons, List.foldl_nil, Int.zero_add, clip_clip]
set_option maxHeartbeats 4000000 in
set_option maxRecDepth 100000 in
theorem RWidth_calls (p : Par) (held hops : Int) (w : World) : Calls Tryz.prog 109 #[.agg #[.int .i64 p.N, .int .i64 p.F, .int .i64 p.D, .int .i64 p.Be, .int .i64 p.Rho, .int .i64 p.De, .int .i64 p.Ji, .int .i64 p.Eps, .int .i64 p.Mu, .int .i64 p.Ho, .int .i64 p.Pu, .int .i64 p.Se], .int .i64 held, .int .i64 hops] w fun e w' => e = .returned (.int .i64 (widthP p held hops)) ∧ Below w.heap.size w w' := by
  have HW := Lib.hid (show widthP p held hops = sadd [sadd [gateP p, smul (smul 2 p.Rho) held], smul (sadd [hops, 1]) (hopP p)] by rw [sadd_nest]; rfl)
  have H := Fr.start0 (M := fun _ => False) (A := fun _ => False) (w := w) (p := fun _ => True) (fun _ h => h.elim) (fun _ _ => trivial)
  go_enter Tryz.func109, Tryz.ntmps109
  go_wp2_with (first
    | ((with_reducible refine gate_dst (N := 3) rfl ?_); refine fr_box H rfl rfl rfl ?_; intro g3 w3 H1; replace H := H1; clear H1)
    | ((with_reducible refine gate_dst (N := 9) rfl ?_); refine fr_get H rfl rfl rfl (by repeat (first | exact At.head | apply At.tail)) Tryz.underlying3 rfl (by simp only [List.getElem?_toArray, List.getElem?_cons_succ, List.getElem?_cons_zero]; rfl) ?_)
    | (go_at_call 108; (with_reducible refine (RMul_calls _ _ _).mono ?_); rintro e w' ⟨rfl, rfl⟩)
    | fail)
  refine ko_region0 H (by kernel_rfl) (by as_aux_lemma => kernel_rfl) (fun HR => ?_)
  repeat (first
    | ((with_reducible refine kg_call (f := 108) rfl ?_); refine ko_call 108 _ rfl (by rfl) Tryz.func108 (by kernel_rfl) rfl (by kernel_rfl) (by simp only [List.map_toArray, List.map_cons, List.map_nil]; rfl) (fun W hC hd => ret_below (RMul_calls _ _ _)) ?_; (try simp only [Act.put, lsA, lsZ, lsS, Nat.reduceAdd]))
    | ((with_reducible refine kg_call (f := 115) rfl ?_); refine ko_call 115 _ rfl (by rfl) Tryz.func115 (by kernel_rfl) rfl (by kernel_rfl) (by simp only [List.map_toArray, List.map_cons, List.map_nil]; rfl) (fun W hC hd => RLadd_calls _ _ _) ?_; (try simp only [Act.put, lsA, lsZ, lsS, Nat.reduceAdd]))
    | ((with_reducible refine kg_call (f := 117) rfl ?_); refine ko_call 117 _ rfl (by rfl) Tryz.func117 (by kernel_rfl) rfl (by kernel_rfl) (by simp only [List.map_toArray, List.map_cons, List.map_nil]; rfl) (fun W hC hd => RHop_calls p _) ?_; (try simp only [Act.put, lsA, lsZ, lsS, Nat.reduceAdd]))
    | ((with_reducible refine kg_call (f := 116) rfl ?_); refine ko_call 116 _ rfl (by rfl) Tryz.func116 (by kernel_rfl) rfl (by kernel_rfl) (by simp only [List.map_toArray, List.map_cons, List.map_nil]; rfl) (fun W hC hd => RGate_calls p _) ?_; (try simp only [Act.put, lsA, lsZ, lsS, Nat.reduceAdd]))
    | ((with_reducible refine kg_load (ty := 23) rfl ?_); refine ko_sub HR (n := 12) rfl (by rfl) (by rfl) (by repeat (first | exact At.head | apply At.tail)) Tryz.underlying23 rfl (by kernel_rfl) (by simp only [List.toList_toArray, List.drop_succ_cons, List.drop_zero, List.take_succ_cons, List.take_zero]; rfl) (by rfl) ?_; (try simp only [Act.put, lsA, lsZ, lsS, Nat.reduceAdd]))
    | (refine ko_pure rfl (by rfl) (fun W K hK => by go_simp; exact hK.out) ?_; (try simp only [Act.put, lsA, lsZ, lsS, Nat.reduceAdd]))
    | (refine ko_off (by rfl) ?_; (try simp only [Act.put, lsA, lsZ, lsS, Nat.reduceAdd])))
  refine ko_end ?_
  intro w1 H1
  clear HR H
  have H := H1
  clear H1
  (try simp only [List.map_cons, List.map_nil, cv, List.cons_append, List.nil_append] at H)
  go_wp2
  go_ret
  exact ⟨(by rw [HW.out]; try rfl), H.below⟩
set_option maxHeartbeats 2000000 in
set_option maxRecDepth 100000 in
theorem RHold_calls (p : Par) (a b ticks : Int) (w : World) : Calls Tryz.prog 39 #[.agg #[.int .i64 p.N, .int .i64 p.F, .int .i64 p.D, .int .i64 p.Be, .int .i64 p.Rho, .int .i64 p.De, .int .i64 p.Ji, .int .i64 p.Eps, .int .i64 p.Mu, .int .i64 p.Ho, .int .i64 p.Pu, .int .i64 p.Se], .agg #[.int .i64 a, .int .i64 b], .int .i64 ticks] w fun e w' => e = .returned (.agg #[.int .i64 (sadd [a, ssub ticks p.Rho]), .int .i64 (sadd [b, sadd [ticks, p.Rho]])]) ∧ Below w.heap.size w w' := by
  have H := Fr.start0 (M := fun _ => False) (A := fun _ => False) (w := w) (p := fun _ => True) (fun _ h => h.elim) (fun _ _ => trivial)
  go_enter Tryz.func39, Tryz.ntmps39
  go_wp2_with (first
    | ((with_reducible refine gate_dst (N := 3) rfl ?_); refine fr_box H rfl rfl rfl ?_; intro g3 w3 H1; replace H := H1; clear H1)
    | ((with_reducible refine gate_dst (N := 4) rfl ?_); refine fr_box H rfl rfl rfl ?_; intro g4 w4 H1; replace H := H1; clear H1)
    | ((with_reducible refine gate_dst (N := 6) rfl ?_); refine fr_new H (N := 6) rfl rfl (cs := #[.int .i64 0, .int .i64 0]) (t := 25) ?hr ?_; (case hr => first | (go_simp; done) | (go_simp; rfl)); intro g6 w6 H1; replace H := H1; clear H1)
    | fail)
  refine ko_region1 H (by simp only [List.length_cons, List.length_nil, Nat.reduceAdd]; rfl) (g := g6) (by repeat (first | exact Take.head | apply Take.tail)) (by kernel_rfl) (by as_aux_lemma => kernel_rfl) (fun HR => ?_)
  repeat (first
    | ((with_reducible refine kg_call (f := 23) rfl ?_); refine ko_call 23 _ rfl (by rfl) Tryz.func23 (by kernel_rfl) rfl (by kernel_rfl) (by simp only [List.map_toArray, List.map_cons, List.map_nil]; rfl) (fun W hC hd => RAdd2 (by first | exact depH.hd hd (by kernel_rfl) | exact depH.hd (depH.tl hd) (by kernel_rfl) | exact depH.hd (depH.tl (depH.tl hd)) (by kernel_rfl))) ?_; (try simp only [Act.put, lsA, lsZ, lsS, Nat.reduceAdd]))
    | ((with_reducible refine kg_call (f := 23) rfl ?_); refine ko_call 23 _ rfl (by rfl) Tryz.func23 (by kernel_rfl) rfl (by kernel_rfl) (by simp only [List.map_toArray, List.map_cons, List.map_nil]; rfl) (fun W hC hd => RAdd3 (by first | exact depH.hd hd (by kernel_rfl) | exact depH.hd (depH.tl hd) (by kernel_rfl) | exact depH.hd (depH.tl (depH.tl hd)) (by kernel_rfl))) ?_; (try simp only [Act.put, lsA, lsZ, lsS, Nat.reduceAdd]))
    | ((with_reducible refine kg_call (f := 70) rfl ?_); refine ko_call 70 _ rfl (by rfl) Tryz.func70 (by kernel_rfl) rfl (by kernel_rfl) (by simp only [List.map_toArray, List.map_cons, List.map_nil]; rfl) (fun W hC hd => ret_below (RSub_calls _ _ _)) ?_; (try simp only [Act.put, lsA, lsZ, lsS, Nat.reduceAdd]))
    | ((with_reducible refine kg_call (f := 71) rfl ?_); refine ko_call 71 _ rfl (by rfl) Tryz.func71 (by kernel_rfl) rfl (by kernel_rfl) (by simp only [List.map_toArray, List.map_cons, List.map_nil]; rfl) (fun W hC hd => RShift_calls _ _ _ _ _) ?_; (try simp only [Act.put, lsA, lsZ, lsS, Nat.reduceAdd]))
    | ((with_reducible refine kg_load (ty := 25) rfl ?_); refine ko_sub HR (n := 2) rfl (by rfl) (by rfl) (by repeat (first | exact At.head | apply At.tail)) Tryz.underlying25 rfl (by kernel_rfl) (by simp only [List.toList_toArray, List.drop_succ_cons, List.drop_zero, List.take_succ_cons, List.take_zero]; rfl) (by rfl) ?_; (try simp only [Act.put, lsA, lsZ, lsS, Nat.reduceAdd]))
    | ((with_reducible refine kg_load (ty := 3) rfl ?_); refine ko_get HR rfl (by rfl) (by rfl) (by repeat (first | exact At.head | apply At.tail)) Tryz.underlying3 rfl (by simp only [List.getElem?_toArray, List.getElem?_cons_succ, List.getElem?_cons_zero]; rfl) ?_; (try simp only [Act.put, lsA, lsZ, lsS, Nat.reduceAdd]))
    | ((with_reducible refine kg_dst (N := 15) rfl ?_); refine ko_row rfl (by rfl) (fun W K hK => by go_simp; exact hK.out) ?_; intro x15; (try simp only [Act.put, lsA, lsZ, lsS, Nat.reduceAdd]))
    | ((with_reducible refine kg_store (ty := 25) rfl ?_); refine ko_put (u := .agg (List.toArray _)) rfl rfl (by rfl) (by rfl) (by rfl) (by repeat (first | exact VarAt.head | apply VarAt.tail)) (by kernel_rfl) (Nat.le_of_ble_eq_true rfl) (by simp only [Value.cells, List.take_succ_cons, List.take_zero, List.drop_succ_cons, List.drop_zero, List.cons_append, List.nil_append, List.length_cons, List.length_nil, Nat.reduceAdd, List.append_nil, List.drop_nil, List.take_nil]; rfl) (by repeat (first | exact VarAt.head | apply VarAt.tail)) (by simp [apartR, Value.cells]) (by kernel_rfl) (by simp [Value.cells, Value.oneCell']) ?_; (try simp only [Value.cells, List.length_cons, List.length_nil, Nat.reduceAdd]))
    | (refine ko_pure rfl (by rfl) (fun W K hK => by go_simp; exact hK.out) ?_; (try simp only [Act.put, lsA, lsZ, lsS, Nat.reduceAdd]))
    | (refine ko_off (by rfl) ?_; (try simp only [Act.put, lsA, lsZ, lsS, Nat.reduceAdd])))
  refine ko_end ?_
  intro w1 H1
  clear HR H
  have H := H1
  clear H1
  (try simp only [List.map_cons, List.map_nil, cv, List.cons_append, List.nil_append] at H)
  go_wp2
  refine bodyPost_ret (results_c rfl _ _ g6 25 _ (0, 0) _ rfl (H.of (by repeat (first | exact At.head | apply At.tail))) Tryz.underlying25 rfl (by kernel_rfl)) rfl ?_
  exact ⟨rfl, H.below⟩
end Go.Proofs.YtbmfgcekglgliaaGreat.G

namespace Go.Proofs.YtbmfgcekglgliaaGreat.G
open Go.RowKit Go.Proofs.YtbmfgcekglgliaaGreatW.PrintWords Go.Proofs.YtbmfgcekglgliaaGreatW.PrintLast Go.Proofs.YtbmfgcekglgliaaGreatW.PrintMore Go.Proofs.YtbmfgcekglgliaaGreatPl Go.Proofs.YtbmfgcekglgliaaGreatEm Go.Proofs.YtbmfgcekglgliaaGreatKr
set_option linter.unusedVariables false
set_option linter.unusedSimpArgs false
theorem sneg_wrap (a : Int) : IntKind.i64.wrap (-clip a) = sneg a := by
  have := clip_bd a
  unfold sneg
  rw [IntKind.wrap_i64]
  omega
set_option maxHeartbeats 4000000 in
set_option maxRecDepth 100000 in
theorem RWay_calls (p : Par) (a b age : Int) (w : World) : Calls Tryz.prog 37 #[.agg #[.int .i64 p.N, .int .i64 p.F, .int .i64 p.D, .int .i64 p.Be, .int .i64 p.Rho, .int .i64 p.De, .int .i64 p.Ji, .int .i64 p.Eps, .int .i64 p.Mu, .int .i64 p.Ho, .int .i64 p.Pu, .int .i64 p.Se], .agg #[.int .i64 a, .int .i64 b], .int .i64 age] w fun e w' => e = .returned (.agg #[.int .i64 (wayP p a b age).1, .int .i64 (wayP p a b age).2]) ∧ Below w.heap.size w w' := by
  have hw1 := sneg_wrap p.Rho
  have H := Fr.start0 (M := fun _ => False) (A := fun _ => False) (w := w) (p := fun _ => True) (fun _ h => h.elim) (fun _ _ => trivial)
  go_enter Tryz.func37, Tryz.ntmps37
  go_wp2_with (first
    | ((with_reducible refine gate_dst (N := 3) rfl ?_); refine fr_box H rfl rfl rfl ?_; intro g3 w3 H1; replace H := H1; clear H1)
    | ((with_reducible refine gate_dst (N := 4) rfl ?_); refine fr_box H rfl rfl rfl ?_; intro g4 w4 H1; replace H := H1; clear H1)
    | ((with_reducible refine gate_dst (N := 6) rfl ?_); refine fr_new H (N := 6) rfl rfl (cs := #[.int .i64 0, .int .i64 0]) (t := 25) ?hr ?_; (case hr => first | (go_simp; done) | (go_simp; rfl)); intro g6 w6 H1; replace H := H1; clear H1)
    | fail)
  refine ko_region0 H (by kernel_rfl) (by as_aux_lemma => kernel_rfl) (fun HR => ?_)
  repeat (first
    | ((with_reducible refine kg_call (f := 23) rfl ?_); refine ko_call 23 _ rfl (by rfl) Tryz.func23 (by kernel_rfl) rfl (by kernel_rfl) (by simp only [List.map_toArray, List.map_cons, List.map_nil]; rfl) (fun W hC hd => RAdd2 (by first | exact depH.hd hd (by kernel_rfl) | exact depH.hd (depH.tl hd) (by kernel_rfl) | exact depH.hd (depH.tl (depH.tl hd)) (by kernel_rfl))) ?_; (try simp only [Act.put, lsA, lsZ, lsS, Nat.reduceAdd]))
    | ((with_reducible refine kg_call (f := 23) rfl ?_); refine ko_call 23 _ rfl (by rfl) Tryz.func23 (by kernel_rfl) rfl (by kernel_rfl) (by simp only [List.map_toArray, List.map_cons, List.map_nil]; rfl) (fun W hC hd => RAdd3 (by first | exact depH.hd hd (by kernel_rfl) | exact depH.hd (depH.tl hd) (by kernel_rfl) | exact depH.hd (depH.tl (depH.tl hd)) (by kernel_rfl))) ?_; (try simp only [Act.put, lsA, lsZ, lsS, Nat.reduceAdd]))
    | ((with_reducible refine kg_call (f := 70) rfl ?_); refine ko_call 70 _ rfl (by rfl) Tryz.func70 (by kernel_rfl) rfl (by kernel_rfl) (by simp only [List.map_toArray, List.map_cons, List.map_nil]; rfl) (fun W hC hd => ret_below (RSub_calls _ _ _)) ?_; (try simp only [Act.put, lsA, lsZ, lsS, Nat.reduceAdd]))
    | ((with_reducible refine kg_call (f := 21) rfl ?_); refine ko_call 21 _ rfl (by rfl) Tryz.func21 (by kernel_rfl) rfl (by kernel_rfl) (by simp only [List.map_toArray, List.map_cons, List.map_nil]; rfl) (fun W hC hd => ret_below (RClip_calls _ _)) ?_; (try simp only [Act.put, lsA, lsZ, lsS, Nat.reduceAdd]))
    | ((with_reducible refine kg_call (f := 71) rfl ?_); refine ko_call 71 _ rfl (by rfl) Tryz.func71 (by kernel_rfl) rfl (by kernel_rfl) (by simp only [List.map_toArray, List.map_cons, List.map_nil]; rfl) (fun W hC hd => RShift_calls _ _ _ _ _) ?_; (try simp only [Act.put, lsA, lsZ, lsS, Nat.reduceAdd]))
    | ((with_reducible refine kg_load (ty := 3) rfl ?_); refine ko_get HR rfl (by rfl) (by rfl) (by repeat (first | exact At.head | apply At.tail)) Tryz.underlying3 rfl (by simp only [List.getElem?_toArray, List.getElem?_cons_succ, List.getElem?_cons_zero]; rfl) ?_; (try simp only [Act.put, lsA, lsZ, lsS, Nat.reduceAdd]))
    | ((with_reducible refine kg_dst (N := 18) rfl ?_); refine ko_row rfl (by rfl) (fun W K hK => by go_simp; exact hK.out) ?_; intro x18; (try simp only [Act.put, lsA, lsZ, lsS, Nat.reduceAdd]))
    | ((with_reducible refine kg_load (ty := 25) rfl ?_); refine ko_sub HR (n := 2) rfl (by rfl) (by rfl) (by repeat (first | exact At.head | apply At.tail)) Tryz.underlying25 rfl (by kernel_rfl) (by simp only [List.toList_toArray, List.drop_succ_cons, List.drop_zero, List.take_succ_cons, List.take_zero]; rfl) (by rfl) ?_; (try simp only [Act.put, lsA, lsZ, lsS, Nat.reduceAdd]))
    | ((with_reducible refine kg_dst (N := 27) rfl ?_); refine ko_row rfl (by rfl) (fun W K hK => by go_simp; exact hK.out) ?_; intro x27; (try simp only [Act.put, lsA, lsZ, lsS, Nat.reduceAdd]))
    | ((with_reducible refine kg_store (ty := 25) rfl ?_); refine ko_put (u := .agg (List.toArray _)) rfl rfl (by rfl) (by rfl) (by rfl) (by repeat (first | exact VarAt.head | apply VarAt.tail)) (by kernel_rfl) (Nat.le_of_ble_eq_true rfl) (by simp only [Value.cells, List.take_succ_cons, List.take_zero, List.drop_succ_cons, List.drop_zero, List.cons_append, List.nil_append, List.length_cons, List.length_nil, Nat.reduceAdd, List.append_nil, List.drop_nil, List.take_nil]; rfl) (by repeat (first | exact VarAt.head | apply VarAt.tail)) (by simp [apartR, Value.cells]) (by kernel_rfl) (by simp [Value.cells, Value.oneCell']) ?_; (try simp only [Value.cells, List.length_cons, List.length_nil, Nat.reduceAdd]))
    | (refine ko_pure rfl (by rfl) (fun W K hK => by go_simp; exact hK.out) ?_; (try simp only [Act.put, lsA, lsZ, lsS, Nat.reduceAdd]))
    | (refine ko_off (by rfl) ?_; (try simp only [Act.put, lsA, lsZ, lsS, Nat.reduceAdd])))
  refine ko_end ?_
  intro w1 H1
  clear HR H
  have H := H1
  clear H1
  (try simp only [List.map_cons, List.map_nil, cv, List.cons_append, List.nil_append] at H)
  go_upto_region 2 with fail
  refine ko_region1 H (by simp only [List.length_cons, List.length_nil, Nat.reduceAdd]; rfl) (g := g6) (by repeat (first | exact Take.head | apply Take.tail)) (by kernel_rfl) (by as_aux_lemma => kernel_rfl) (fun HR => ?_)
  repeat (first
    | ((with_reducible refine kg_call (f := 23) rfl ?_); refine ko_call 23 _ rfl (by rfl) Tryz.func23 (by kernel_rfl) rfl (by kernel_rfl) (by simp only [List.map_toArray, List.map_cons, List.map_nil]; rfl) (fun W hC hd => RAdd2 (by first | exact depH.hd hd (by kernel_rfl) | exact depH.hd (depH.tl hd) (by kernel_rfl) | exact depH.hd (depH.tl (depH.tl hd)) (by kernel_rfl))) ?_; (try simp only [Act.put, lsA, lsZ, lsS, Nat.reduceAdd]))
    | ((with_reducible refine kg_call (f := 23) rfl ?_); refine ko_call 23 _ rfl (by rfl) Tryz.func23 (by kernel_rfl) rfl (by kernel_rfl) (by simp only [List.map_toArray, List.map_cons, List.map_nil]; rfl) (fun W hC hd => RAdd3 (by first | exact depH.hd hd (by kernel_rfl) | exact depH.hd (depH.tl hd) (by kernel_rfl) | exact depH.hd (depH.tl (depH.tl hd)) (by kernel_rfl))) ?_; (try simp only [Act.put, lsA, lsZ, lsS, Nat.reduceAdd]))
    | ((with_reducible refine kg_call (f := 70) rfl ?_); refine ko_call 70 _ rfl (by rfl) Tryz.func70 (by kernel_rfl) rfl (by kernel_rfl) (by simp only [List.map_toArray, List.map_cons, List.map_nil]; rfl) (fun W hC hd => ret_below (RSub_calls _ _ _)) ?_; (try simp only [Act.put, lsA, lsZ, lsS, Nat.reduceAdd]))
    | ((with_reducible refine kg_call (f := 21) rfl ?_); refine ko_call 21 _ rfl (by rfl) Tryz.func21 (by kernel_rfl) rfl (by kernel_rfl) (by simp only [List.map_toArray, List.map_cons, List.map_nil]; rfl) (fun W hC hd => ret_below (RClip_calls _ _)) ?_; (try simp only [Act.put, lsA, lsZ, lsS, Nat.reduceAdd]))
    | ((with_reducible refine kg_call (f := 71) rfl ?_); refine ko_call 71 _ rfl (by rfl) Tryz.func71 (by kernel_rfl) rfl (by kernel_rfl) (by simp only [List.map_toArray, List.map_cons, List.map_nil]; rfl) (fun W hC hd => RShift_calls _ _ _ _ _) ?_; (try simp only [Act.put, lsA, lsZ, lsS, Nat.reduceAdd]))
    | ((with_reducible refine kg_load (ty := 3) rfl ?_); refine ko_get HR rfl (by rfl) (by rfl) (by repeat (first | exact At.head | apply At.tail)) Tryz.underlying3 rfl (by simp only [List.getElem?_toArray, List.getElem?_cons_succ, List.getElem?_cons_zero]; rfl) ?_; (try simp only [Act.put, lsA, lsZ, lsS, Nat.reduceAdd]))
    | ((with_reducible refine kg_dst (N := 18) rfl ?_); refine ko_row rfl (by rfl) (fun W K hK => by go_simp; exact hK.out) ?_; intro x18; (try simp only [Act.put, lsA, lsZ, lsS, Nat.reduceAdd]))
    | ((with_reducible refine kg_load (ty := 25) rfl ?_); refine ko_sub HR (n := 2) rfl (by rfl) (by rfl) (by repeat (first | exact At.head | apply At.tail)) Tryz.underlying25 rfl (by kernel_rfl) (by simp only [List.toList_toArray, List.drop_succ_cons, List.drop_zero, List.take_succ_cons, List.take_zero]; rfl) (by rfl) ?_; (try simp only [Act.put, lsA, lsZ, lsS, Nat.reduceAdd]))
    | ((with_reducible refine kg_dst (N := 27) rfl ?_); refine ko_row rfl (by rfl) (fun W K hK => by go_simp; exact hK.out) ?_; intro x27; (try simp only [Act.put, lsA, lsZ, lsS, Nat.reduceAdd]))
    | ((with_reducible refine kg_store (ty := 25) rfl ?_); refine ko_put (u := .agg (List.toArray _)) rfl rfl (by rfl) (by rfl) (by rfl) (by repeat (first | exact VarAt.head | apply VarAt.tail)) (by kernel_rfl) (Nat.le_of_ble_eq_true rfl) (by simp only [Value.cells, List.take_succ_cons, List.take_zero, List.drop_succ_cons, List.drop_zero, List.cons_append, List.nil_append, List.length_cons, List.length_nil, Nat.reduceAdd, List.append_nil, List.drop_nil, List.take_nil]; rfl) (by repeat (first | exact VarAt.head | apply VarAt.tail)) (by simp [apartR, Value.cells]) (by kernel_rfl) (by simp [Value.cells, Value.oneCell']) ?_; (try simp only [Value.cells, List.length_cons, List.length_nil, Nat.reduceAdd]))
    | (refine ko_pure rfl (by rfl) (fun W K hK => by go_simp; exact hK.out) ?_; (try simp only [Act.put, lsA, lsZ, lsS, Nat.reduceAdd]))
    | (refine ko_off (by rfl) ?_; (try simp only [Act.put, lsA, lsZ, lsS, Nat.reduceAdd])))
  refine ko_end ?_
  intro w1 H1
  clear HR H
  have H := H1
  clear H1
  (try simp only [List.map_cons, List.map_nil, cv, List.cons_append, List.nil_append] at H)
  go_wp2
  refine bodyPost_ret (results_c rfl _ _ g6 25 _ (0, 0) _ rfl (H.of (by repeat (first | exact At.head | apply At.tail))) Tryz.underlying25 rfl (by kernel_rfl)) rfl ?_
  exact ⟨rfl, H.below⟩
def slewQ (p : Par) (t ticks z : Int) : Int := sadd [sadd [t, ticks], bound (ssub z (sadd [t, ticks])) (sneg p.Mu) p.Mu]
set_option maxHeartbeats 4000000 in
set_option maxRecDepth 100000 in
theorem RSlew_calls (p : Par) (t ticks z : Int) (w : World) : Calls Tryz.prog 79 #[.agg #[.int .i64 p.N, .int .i64 p.F, .int .i64 p.D, .int .i64 p.Be, .int .i64 p.Rho, .int .i64 p.De, .int .i64 p.Ji, .int .i64 p.Eps, .int .i64 p.Mu, .int .i64 p.Ho, .int .i64 p.Pu, .int .i64 p.Se], .int .i64 t, .int .i64 ticks, .int .i64 z] w fun e w' => e = .returned (.int .i64 (slewQ p t ticks z)) ∧ Below w.heap.size w w' := by
  have hw1 := sneg_wrap p.Mu
  have HN := Lib.hid (show slewQ p t ticks z = sadd [sadd [t, ticks], bound (ssub z (sadd [t, ticks])) (sneg p.Mu) p.Mu] from rfl)
  have H := Fr.start0 (M := fun _ => False) (A := fun _ => False) (w := w) (p := fun _ => True) (fun _ h => h.elim) (fun _ _ => trivial)
  go_enter Tryz.func79, Tryz.ntmps79
  go_wp2_with (first
    | ((with_reducible refine gate_dst (N := 4) rfl ?_); refine fr_box H rfl rfl rfl ?_; intro g4 w4 H1; replace H := H1; clear H1)
    | ((with_reducible refine gate_dst (N := 13) rfl ?_); refine fr_rowv H (N := 13) rfl rfl (fun K hK => by go_simp; exact hK.out) ?_; intro x13 w13 H1; replace H := H1; clear H1)
    | (go_at_call 23; (with_reducible refine (RAdd2 (H.of At.head)).mono ?_); rintro e w' ⟨rfl, hb⟩; have H1 := H.call hb; clear hb; replace H := H1; clear H1)
    | fail)
  refine ko_region0 H (by kernel_rfl) (by as_aux_lemma => kernel_rfl) (fun HR => ?_)
  repeat (first
    | ((with_reducible refine kg_call (f := 70) rfl ?_); refine ko_call 70 _ rfl (by rfl) Tryz.func70 (by kernel_rfl) rfl (by kernel_rfl) (by simp only [List.map_toArray, List.map_cons, List.map_nil]; rfl) (fun W hC hd => ret_below (RSub_calls _ _ _)) ?_; (try simp only [Act.put, lsA, lsZ, lsS, Nat.reduceAdd]))
    | ((with_reducible refine kg_call (f := 21) rfl ?_); refine ko_call 21 _ rfl (by rfl) Tryz.func21 (by kernel_rfl) rfl (by kernel_rfl) (by simp only [List.map_toArray, List.map_cons, List.map_nil]; rfl) (fun W hC hd => ret_below (RClip_calls _ _)) ?_; (try simp only [Act.put, lsA, lsZ, lsS, Nat.reduceAdd]))
    | ((with_reducible refine kg_call (f := 22) rfl ?_); refine ko_call 22 _ rfl (by rfl) Tryz.func22 (by kernel_rfl) rfl (by kernel_rfl) (by simp only [List.map_toArray, List.map_cons, List.map_nil]; rfl) (fun W hC hd => ret_below (RBound_calls _ _ _ _)) ?_; (try simp only [Act.put, lsA, lsZ, lsS, Nat.reduceAdd]))
    | ((with_reducible refine kg_load (ty := 3) rfl ?_); refine ko_get HR rfl (by rfl) (by rfl) (by repeat (first | exact At.head | apply At.tail)) Tryz.underlying3 rfl (by simp only [List.getElem?_toArray, List.getElem?_cons_succ, List.getElem?_cons_zero]; rfl) ?_; (try simp only [Act.put, lsA, lsZ, lsS, Nat.reduceAdd]))
    | (refine ko_pure rfl (by rfl) (fun W K hK => by go_simp; exact hK.out) ?_; (try simp only [Act.put, lsA, lsZ, lsS, Nat.reduceAdd]))
    | (refine ko_off (by rfl) ?_; (try simp only [Act.put, lsA, lsZ, lsS, Nat.reduceAdd])))
  refine ko_end ?_
  intro w1 H1
  clear HR H
  have H := H1
  clear H1
  (try simp only [List.map_cons, List.map_nil, cv, List.cons_append, List.nil_append] at H)
  go_wp2_with (first
    | ((with_reducible refine gate_dst (N := 27) rfl ?_); refine fr_rowv H (N := 27) rfl rfl (fun K hK => by go_simp; exact hK.out) ?_; intro x27 w27 H1; replace H := H1; clear H1)
    | (go_at_call 23; (with_reducible refine (RAdd2 (H.of At.head)).mono ?_); rintro e w' ⟨rfl, hb⟩; have H1 := H.call hb; clear hb; replace H := H1; clear H1)
    | fail)
  go_ret
  exact ⟨(by rw [HN.out]; try rfl), H.below⟩
theorem ROne_calls (c : Int) (w : World) : Calls Tryz.prog 107 #[.int .i64 c] w fun e w' => e = .returned (.int .i64 (one c)) ∧ w' = w := by
  have hone : one c = if clip c < 1 then 1 else clip c := rfl
  by_cases h : clip c < 1
  · have HO := Lib.hid (hone.trans (if_pos h))
    have d1 : decide (clip c < 1) = true := decide_eq_true h
    clear hone h
    go_enter Tryz.func107, Tryz.ntmps107
    go_wp2_with (go_at_call 21; refine (RClip_calls _ _).mono ?_; rintro e w' ⟨rfl, rfl⟩)
    go_ret
    exact ⟨(by rw [HO.out]; try rfl), rfl⟩
  · have HO := Lib.hid (hone.trans (if_neg h))
    have d1 : decide (clip c < 1) = false := decide_eq_false h
    clear hone h
    go_enter Tryz.func107, Tryz.ntmps107
    go_wp2_with (go_at_call 21; refine (RClip_calls _ _).mono ?_; rintro e w' ⟨rfl, rfl⟩)
    go_ret
    exact ⟨(by rw [HO.out]; try rfl), rfl⟩
theorem exact_div {a c : Int} (h : 0 < c) (h0 : a % c = 0) : a.tdiv c = a / c := by
  rw [Int.tdiv_eq_ediv]
  by_cases h1 : 0 ≤ a
  · rw [if_pos (.inl h1), Int.add_zero]
  · rw [if_pos (.inr (Int.dvd_of_emod_eq_zero h0)), Int.add_zero]
set_option maxHeartbeats 4000000 in
set_option maxRecDepth 100000 in
theorem RDiv_calls (a c : Int) (w : World) : Calls Tryz.prog 96 #[.int .i64 a, .int .i64 c] w fun e w' => e = .returned (.tuple #[.int .i64 (dv a c), .int .i64 (md a c)]) ∧ w' = w := by
  have h1 := (one_bd c).1
  have h2 := (one_bd c).2
  have h3 := (clip_bd a).1
  have h4 := (clip_bd a).2
  have hd1 : dv a c = clip a / one c := rfl
  have hd2 : md a c = clip a % one c := rfl
  have KA := Lib.hid (fun W => RClip_calls a W)
  have KO := Lib.hid (fun W => ROne_calls c W)
  obtain ⟨x, hx⟩ : ∃ x, clip a = x := ⟨_, rfl⟩
  obtain ⟨y, hy⟩ : ∃ y, one c = y := ⟨_, rfl⟩
  rw [hx] at h3 h4 hd1 hd2 KA
  rw [hy] at h1 h2 hd1 hd2 KO
  clear hx hy
  have m0 := Int.emod_nonneg x (show y ≠ 0 by omega)
  have m1 := Int.emod_lt_of_pos x (show 0 < y by omega)
  have hz : (y == 0) = false := beq_eq_false_iff_ne.2 (by omega)
  have hz2 : ¬ y = 0 := by omega
  have q3 : (x - x % y) % y = 0 := by rw [Int.sub_emod, Int.emod_emod_of_dvd _ (Int.dvd_refl y), Int.sub_self, Int.zero_emod]
  have q4 : (x - x % y).tdiv y = x / y := by
    rw [exact_div (by omega) q3]
    have h5 := Int.mul_ediv_add_emod x y
    rw [show x - x % y = y * (x / y) by omega, Int.mul_ediv_cancel_left _ (by omega)]
  have q5 : -2305843009213693952 ≤ x / y ∧ x / y ≤ 2305843009213693952 := by
    have h5 := Int.mul_ediv_add_emod x y
    constructor
    · refine (Int.le_ediv_iff_mul_le (by omega)).2 ?_
      omega
    · by_cases h : 0 ≤ x
      · exact Int.le_trans (Int.ediv_le_self _ h) h4
      · have : x / y < 0 := Int.ediv_neg_of_neg_of_pos (by omega) (by omega)
        omega
  obtain ⟨u, hu⟩ : ∃ u, x - x % y = u := ⟨_, rfl⟩
  obtain ⟨v, hv⟩ : ∃ v, x / y = v := ⟨_, rfl⟩
  obtain ⟨m, hm⟩ : ∃ m, x % y = m := ⟨_, rfl⟩
  rw [hu, hv] at q4
  rw [hm] at hu m0 m1 hd2
  rw [hv] at q5 hd1
  have e2' : wrap64 (x - m) = u := by unfold wrap64; omega
  have e3' : wrap64 ((x - m).tdiv y) = (x - m).tdiv y := by rw [hu, q4]; unfold wrap64; omega
  by_cases hn : x.tmod y < 0
  · have t1 := ((tdown (a := x) (c := y) (by omega)).1 hn).2
    have dm : decide (x.tmod y < 0) = true := decide_eq_true hn
    obtain ⟨k, hk⟩ : ∃ k, x.tmod y = k := ⟨_, rfl⟩
    rw [hk] at t1 dm hn
    have e1' : wrap64 (k + y) = m := by unfold wrap64; omega
    have HD : Hid (dv a c = (x - m).tdiv y ∧ md a c = wrap64 (k + y)) := Lib.hid ⟨by rw [hd1, hu, q4], by rw [hd2, e1']⟩
    clear hd1 hd2 hn q3 q4 q5 hu hv hm t1
    go_enter Tryz.func96, Tryz.ntmps96
    go_wp2_with (first
      | (go_at_call 21; refine (KA.out _).mono ?_; rintro e w' ⟨rfl, rfl⟩)
      | (go_at_call 107; refine (KO.out _).mono ?_; rintro e w' ⟨rfl, rfl⟩)
      | fail)
    go_ret2
    exact ⟨(by rw [HD.out.1, HD.out.2]; try rfl), rfl⟩
  · have t1 := ((tdown (a := x) (c := y) (by omega)).2 hn).2
    have dm : decide (x.tmod y < 0) = false := decide_eq_false hn
    obtain ⟨k, hk⟩ : ∃ k, x.tmod y = k := ⟨_, rfl⟩
    rw [hk] at t1 dm hn
    obtain rfl : k = m := by omega
    have HD : Hid (dv a c = (x - k).tdiv y ∧ md a c = k) := Lib.hid ⟨by rw [hd1, hu, q4], hd2⟩
    clear hd1 hd2 hn q3 q4 q5 hu hv hm t1
    go_enter Tryz.func96, Tryz.ntmps96
    go_wp2_with (first
      | (go_at_call 21; refine (KA.out _).mono ?_; rintro e w' ⟨rfl, rfl⟩)
      | (go_at_call 107; refine (KO.out _).mono ?_; rintro e w' ⟨rfl, rfl⟩)
      | fail)
    go_ret2
    exact ⟨(by rw [HD.out.1, HD.out.2]; try rfl), rfl⟩
set_option maxHeartbeats 2000000 in
set_option maxRecDepth 100000 in
theorem RNumber_calls (p : Par) (t : Int) (w : World) : Calls Tryz.prog 76 #[.agg #[.int .i64 p.N, .int .i64 p.F, .int .i64 p.D, .int .i64 p.Be, .int .i64 p.Rho, .int .i64 p.De, .int .i64 p.Ji, .int .i64 p.Eps, .int .i64 p.Mu, .int .i64 p.Ho, .int .i64 p.Pu, .int .i64 p.Se], .int .i64 t] w fun e w' => e = .returned (.int .i64 (numP p t)) ∧ Below w.heap.size w w' := by
  have H := Fr.start0 (M := fun _ => False) (A := fun _ => False) (w := w) (p := fun _ => True) (fun _ h => h.elim) (fun _ _ => trivial)
  go_enter Tryz.func76, Tryz.ntmps76
  go_wp2_with (first
    | ((with_reducible refine gate_dst (N := 2) rfl ?_); refine fr_box H rfl rfl rfl ?_; intro g2 w2 H1; replace H := H1; clear H1)
    | ((with_reducible refine gate_dst (N := 10) rfl ?_); refine fr_get H rfl rfl rfl (by repeat (first | exact At.head | apply At.tail)) Tryz.underlying3 rfl (by simp only [List.getElem?_toArray, List.getElem?_cons_succ, List.getElem?_cons_zero]; rfl) ?_)
    | (go_at_call 96; (with_reducible refine (RDiv_calls _ _ _).mono ?_); rintro e w' ⟨rfl, rfl⟩)
    | fail)
  go_ret
  exact ⟨rfl, H.below⟩
theorem RMore_calls (held : Int) (w : World) : Calls Tryz.prog 40 #[.int .i64 held] w fun e w' => e = .returned (.int .i64 (moreP held)) ∧ Below w.heap.size w w' := by
  have H := Fr.start0 (M := fun _ => False) (A := fun _ => False) (w := w) (p := fun _ => True) (fun _ h => h.elim) (fun _ _ => trivial)
  go_enter Tryz.func40, Tryz.ntmps40
  go_wp2_with (first
    | ((with_reducible refine gate_dst (N := 4) rfl ?_); refine fr_rowv H (N := 4) rfl rfl (fun K hK => by go_simp; exact hK.out) ?_; intro x4 w4 H1; replace H := H1; clear H1)
    | (go_at_call 23; (with_reducible refine (RAdd2 (H.of At.head)).mono ?_); rintro e w' ⟨rfl, hb⟩; have H1 := H.call hb; clear hb; replace H := H1; clear H1)
    | (go_at_call 22; (with_reducible refine (RBound_calls _ _ _ _).mono ?_); rintro e w' ⟨rfl, rfl⟩)
    | fail)
  go_ret
  exact ⟨rfl, H.below⟩
set_option maxHeartbeats 2000000 in
set_option maxRecDepth 100000 in
theorem RSeen_calls (p : Par) (r : Int) (w : World) : Calls Tryz.prog 36 #[.agg #[.int .i64 p.N, .int .i64 p.F, .int .i64 p.D, .int .i64 p.Be, .int .i64 p.Rho, .int .i64 p.De, .int .i64 p.Ji, .int .i64 p.Eps, .int .i64 p.Mu, .int .i64 p.Ho, .int .i64 p.Pu, .int .i64 p.Se], .int .i64 r] w fun e w' => e = .returned (.tuple #[.agg #[.int .i64 (seenP p r).1, .int .i64 (seenP p r).2], .bool (seenB p r)]) ∧ Below w.heap.size w w' := by
  by_cases h3 : p.Eps < 0
  · have d3 : decide (p.Eps < 0) = true := decide_eq_true h3
    have hb : seenB p r = false := by unfold seenB; rw [decide_eq_false (p := 0 ≤ p.Eps) (by omega), Bool.and_false]
    clear h3
    have HS := Lib.hid (show seenP p r = (0, 0) by unfold seenP; rw [hb]; rfl)
    have HB := Lib.hid hb
    clear hb
    have H := Fr.start0 (M := fun _ => False) (A := fun _ => False) (w := w) (p := fun _ => True) (fun _ h => h.elim) (fun _ _ => trivial)
    go_enter Tryz.func36, Tryz.ntmps36
    go_wp2_with (first
      | ((with_reducible refine gate_dst (N := 2) rfl ?_); refine fr_box H rfl rfl rfl ?_; intro g2 w2 H1; replace H := H1; clear H1)
      | ((with_reducible refine gate_dst (N := 4) rfl ?_); refine fr_new H (N := 4) rfl rfl (cs := #[.int .i64 0, .int .i64 0]) (t := 25) ?hr ?_; (case hr => first | (go_simp; done) | (go_simp; rfl)); intro g4 w4 H1; replace H := H1; clear H1)
      | ((with_reducible refine gate_dst (N := 7) rfl ?_); refine fr_get H rfl rfl rfl (by repeat (first | exact At.head | apply At.tail)) Tryz.underlying3 rfl (by simp only [List.getElem?_toArray, List.getElem?_cons_succ, List.getElem?_cons_zero]; rfl) ?_)
      | ((with_reducible refine gate_store (t := 25) (p := 4) rfl ?_); refine fr_put H rfl rfl rfl rfl rfl (by repeat (first | exact At.head | apply At.tail)) (by rfl) (by kernel_rfl) (by simp [Value.oneCell']) ?_; intro w4_ H1; replace H := H1; clear H1)
      | fail)
    refine bodyPost_ret (results_ct rfl _ _ g4 25 _ (0, 0) _ rfl (H.of (by repeat (first | exact At.head | apply At.tail))) Tryz.underlying25 rfl (by kernel_rfl)) rfl ?_
    exact ⟨(by rw [HS.out, HB.out]; try rfl), H.below⟩
  · have d3 : decide (p.Eps < 0) = false := decide_eq_false h3
    by_cases h1 : 1152921504606846976 < r
    · have d1 : decide (1152921504606846976 < r) = true := decide_eq_true h1
      have hb : seenB p r = false := by unfold seenB; rw [decide_eq_false (by omega)]; rfl
      clear h1 h3
      have HS := Lib.hid (show seenP p r = (0, 0) by unfold seenP; rw [hb]; rfl)
      have HB := Lib.hid hb
      clear hb
      have H := Fr.start0 (M := fun _ => False) (A := fun _ => False) (w := w) (p := fun _ => True) (fun _ h => h.elim) (fun _ _ => trivial)
      go_enter Tryz.func36, Tryz.ntmps36
      go_wp2_with (first
        | ((with_reducible refine gate_dst (N := 2) rfl ?_); refine fr_box H rfl rfl rfl ?_; intro g2 w2 H1; replace H := H1; clear H1)
        | ((with_reducible refine gate_dst (N := 4) rfl ?_); refine fr_new H (N := 4) rfl rfl (cs := #[.int .i64 0, .int .i64 0]) (t := 25) ?hr ?_; (case hr => first | (go_simp; done) | (go_simp; rfl)); intro g4 w4 H1; replace H := H1; clear H1)
        | ((with_reducible refine gate_dst (N := 7) rfl ?_); refine fr_get H rfl rfl rfl (by repeat (first | exact At.head | apply At.tail)) Tryz.underlying3 rfl (by simp only [List.getElem?_toArray, List.getElem?_cons_succ, List.getElem?_cons_zero]; rfl) ?_)
        | ((with_reducible refine gate_store (t := 25) (p := 4) rfl ?_); refine fr_put H rfl rfl rfl rfl rfl (by repeat (first | exact At.head | apply At.tail)) (by rfl) (by kernel_rfl) (by simp [Value.oneCell']) ?_; intro w4_ H1; replace H := H1; clear H1)
        | fail)
      refine bodyPost_ret (results_ct rfl _ _ g4 25 _ (0, 0) _ rfl (H.of (by repeat (first | exact At.head | apply At.tail))) Tryz.underlying25 rfl (by kernel_rfl)) rfl ?_
      exact ⟨(by rw [HS.out, HB.out]; try rfl), H.below⟩
    · have d1 : decide (1152921504606846976 < r) = false := decide_eq_false h1
      by_cases h2 : r < -1152921504606846976
      · have d2 : decide (r < -1152921504606846976) = true := decide_eq_true h2
        have hb : seenB p r = false := by unfold seenB; rw [decide_eq_false (p := -1152921504606846976 ≤ r) (by omega), Bool.and_false]; rfl
        clear h1 h2 h3
        have HS := Lib.hid (show seenP p r = (0, 0) by unfold seenP; rw [hb]; rfl)
        have HB := Lib.hid hb
        clear hb
        have H := Fr.start0 (M := fun _ => False) (A := fun _ => False) (w := w) (p := fun _ => True) (fun _ h => h.elim) (fun _ _ => trivial)
        go_enter Tryz.func36, Tryz.ntmps36
        go_wp2_with (first
          | ((with_reducible refine gate_dst (N := 2) rfl ?_); refine fr_box H rfl rfl rfl ?_; intro g2 w2 H1; replace H := H1; clear H1)
          | ((with_reducible refine gate_dst (N := 4) rfl ?_); refine fr_new H (N := 4) rfl rfl (cs := #[.int .i64 0, .int .i64 0]) (t := 25) ?hr ?_; (case hr => first | (go_simp; done) | (go_simp; rfl)); intro g4 w4 H1; replace H := H1; clear H1)
          | ((with_reducible refine gate_dst (N := 7) rfl ?_); refine fr_get H rfl rfl rfl (by repeat (first | exact At.head | apply At.tail)) Tryz.underlying3 rfl (by simp only [List.getElem?_toArray, List.getElem?_cons_succ, List.getElem?_cons_zero]; rfl) ?_)
          | ((with_reducible refine gate_store (t := 25) (p := 4) rfl ?_); refine fr_put H rfl rfl rfl rfl rfl (by repeat (first | exact At.head | apply At.tail)) (by rfl) (by kernel_rfl) (by simp [Value.oneCell']) ?_; intro w4_ H1; replace H := H1; clear H1)
          | fail)
        refine bodyPost_ret (results_ct rfl _ _ g4 25 _ (0, 0) _ rfl (H.of (by repeat (first | exact At.head | apply At.tail))) Tryz.underlying25 rfl (by kernel_rfl)) rfl ?_
        exact ⟨(by rw [HS.out, HB.out]; try rfl), H.below⟩
      · have d2 : decide (r < -1152921504606846976) = false := decide_eq_false h2
        have hb : seenB p r = true := by unfold seenB; rw [decide_eq_true (by omega), decide_eq_true (by omega), decide_eq_true (by omega)]; rfl
        clear h1 h2 h3
        have HS := Lib.hid (show seenP p r = (ssub r p.Eps, sadd [r, p.Eps]) by unfold seenP; rw [hb]; rfl)
        have HB := Lib.hid hb
        clear hb
        have H := Fr.start0 (M := fun _ => False) (A := fun _ => False) (w := w) (p := fun _ => True) (fun _ h => h.elim) (fun _ _ => trivial)
        go_enter Tryz.func36, Tryz.ntmps36
        go_wp2_with (first
          | ((with_reducible refine gate_dst (N := 2) rfl ?_); refine fr_box H rfl rfl rfl ?_; intro g2 w2 H1; replace H := H1; clear H1)
          | ((with_reducible refine gate_dst (N := 4) rfl ?_); refine fr_new H (N := 4) rfl rfl (cs := #[.int .i64 0, .int .i64 0]) (t := 25) ?hr ?_; (case hr => first | (go_simp; done) | (go_simp; rfl)); intro g4 w4 H1; replace H := H1; clear H1)
          | ((with_reducible refine gate_dst (N := 7) rfl ?_); refine fr_get H rfl rfl rfl (by repeat (first | exact At.head | apply At.tail)) Tryz.underlying3 rfl (by simp only [List.getElem?_toArray, List.getElem?_cons_succ, List.getElem?_cons_zero]; rfl) ?_)
          | ((with_reducible refine gate_store (t := 25) (p := 4) rfl ?_); refine fr_put H rfl rfl rfl rfl rfl (by repeat (first | exact At.head | apply At.tail)) (by rfl) (by kernel_rfl) (by simp [Value.oneCell']) ?_; intro w4_ H1; replace H := H1; clear H1)
          | fail)
        refine ko_region1 H (by simp only [List.length_cons, List.length_nil, Nat.reduceAdd]; rfl) (g := g4) (by repeat (first | exact Take.head | apply Take.tail)) (by kernel_rfl) (by as_aux_lemma => kernel_rfl) (fun HR => ?_)
        repeat (first
          | ((with_reducible refine kg_call (f := 23) rfl ?_); refine ko_call 23 _ rfl (by rfl) Tryz.func23 (by kernel_rfl) rfl (by kernel_rfl) (by simp only [List.map_toArray, List.map_cons, List.map_nil]; rfl) (fun W hC hd => RAdd2 (by first | exact depH.hd hd (by kernel_rfl) | exact depH.hd (depH.tl hd) (by kernel_rfl) | exact depH.hd (depH.tl (depH.tl hd)) (by kernel_rfl))) ?_; (try simp only [Act.put, lsA, lsZ, lsS, Nat.reduceAdd]))
          | ((with_reducible refine kg_call (f := 23) rfl ?_); refine ko_call 23 _ rfl (by rfl) Tryz.func23 (by kernel_rfl) rfl (by kernel_rfl) (by simp only [List.map_toArray, List.map_cons, List.map_nil]; rfl) (fun W hC hd => RAdd3 (by first | exact depH.hd hd (by kernel_rfl) | exact depH.hd (depH.tl hd) (by kernel_rfl) | exact depH.hd (depH.tl (depH.tl hd)) (by kernel_rfl))) ?_; (try simp only [Act.put, lsA, lsZ, lsS, Nat.reduceAdd]))
          | ((with_reducible refine kg_call (f := 70) rfl ?_); refine ko_call 70 _ rfl (by rfl) Tryz.func70 (by kernel_rfl) rfl (by kernel_rfl) (by simp only [List.map_toArray, List.map_cons, List.map_nil]; rfl) (fun W hC hd => ret_below (RSub_calls _ _ _)) ?_; (try simp only [Act.put, lsA, lsZ, lsS, Nat.reduceAdd]))
          | ((with_reducible refine kg_load (ty := 3) rfl ?_); refine ko_get HR rfl (by rfl) (by rfl) (by repeat (first | exact At.head | apply At.tail)) Tryz.underlying3 rfl (by simp only [List.getElem?_toArray, List.getElem?_cons_succ, List.getElem?_cons_zero]; rfl) ?_; (try simp only [Act.put, lsA, lsZ, lsS, Nat.reduceAdd]))
          | ((with_reducible refine kg_dst (N := 25) rfl ?_); refine ko_row rfl (by rfl) (fun W K hK => by go_simp; exact hK.out) ?_; intro x25; (try simp only [Act.put, lsA, lsZ, lsS, Nat.reduceAdd]))
          | ((with_reducible refine kg_store (ty := 25) rfl ?_); refine ko_put (u := .agg (List.toArray _)) rfl rfl (by rfl) (by rfl) (by rfl) (by repeat (first | exact VarAt.head | apply VarAt.tail)) (by kernel_rfl) (Nat.le_of_ble_eq_true rfl) (by simp only [Value.cells, List.take_succ_cons, List.take_zero, List.drop_succ_cons, List.drop_zero, List.cons_append, List.nil_append, List.length_cons, List.length_nil, Nat.reduceAdd, List.append_nil, List.drop_nil, List.take_nil]; rfl) (by repeat (first | exact VarAt.head | apply VarAt.tail)) (by simp [apartR, Value.cells]) (by kernel_rfl) (by simp [Value.cells, Value.oneCell']) ?_; (try simp only [Value.cells, List.length_cons, List.length_nil, Nat.reduceAdd]))
          | (refine ko_pure rfl (by rfl) (fun W K hK => by go_simp; exact hK.out) ?_; (try simp only [Act.put, lsA, lsZ, lsS, Nat.reduceAdd]))
          | (refine ko_off (by rfl) ?_; (try simp only [Act.put, lsA, lsZ, lsS, Nat.reduceAdd])))
        refine ko_end ?_
        intro w1 H1
        clear HR H
        have H := H1
        clear H1
        (try simp only [List.map_cons, List.map_nil, cv, List.cons_append, List.nil_append] at H)
        go_wp2
        refine bodyPost_ret (results_ct rfl _ _ g4 25 _ (0, 0) _ rfl (H.of (by repeat (first | exact At.head | apply At.tail))) Tryz.underlying25 rfl (by kernel_rfl)) rfl ?_
        exact ⟨(by rw [HS.out, HB.out]; try rfl), H.below⟩
end Go.Proofs.YtbmfgcekglgliaaGreat.G

namespace Go.Proofs.YtbmfgcekglgliaaGreat.G
open Go.RowKit Go.Proofs.YtbmfgcekglgliaaGreatW.PrintWords Go.Proofs.YtbmfgcekglgliaaGreatW.PrintLast Go.Proofs.YtbmfgcekglgliaaGreatW.PrintMore Go.Proofs.YtbmfgcekglgliaaGreatPl Go.Proofs.YtbmfgcekglgliaaGreatEm Go.Proofs.YtbmfgcekglgliaaGreatKr Go.Proofs.YtbmfgcekglgliaaGreat.X
set_option linter.unusedVariables false
set_option linter.unusedSimpArgs false
set_option maxRecDepth 100000 in
set_option maxHeartbeats 8000000 in
theorem RTables_calls (A B : Option Addr) (c d : Nat) (l : List Lp) (w : World) (hr : Kd.C k58 w A l.length l) (hr2 : Kd.C k58 w B l.length l) :
    Calls Tryz.prog 16 #[.slice A l.length c, .slice B l.length d] w fun e w' => e = .returned (.bool true) ∧ Below w.heap.size w w' := by
  have hm : l.length ≤ 9223372036854775807 := hr.2.1
  have H := Fr.start0 (M := fun _ => False) (A := fun _ => False) (w := w) (p := fun W => Kd.C k58 W A l.length l ∧ Kd.C k58 W B l.length l) (fun _ h => h.elim) (Tr.and (Go.Proofs.YtbmfgcekglgliaaGreatEv.Tr.of_C hr k58_heap) (Go.Proofs.YtbmfgcekglgliaaGreatEv.Tr.of_C hr2 k58_heap))
  obtain ⟨n, hn⟩ : ∃ n, l.length = n := ⟨_, rfl⟩
  have HN := Lib.hid hn
  rw [hn] at hm ⊢
  clear hr hr2 hn
  go_enter Tryz.func16, Tryz.ntmps16
  go_wp2
  go_loopw [13] (fun v13 wr => ∃ k : Nat, k ≤ n ∧ v13 = .int .i64 k ∧ Fr (fun _ => False) (fun _ => False) w wr [] (fun W => Kd.C k58 W A l.length l ∧ Kd.C k58 W B l.length l)) (fun v13 _ => n - (intOf v13).toNat)
  case atStart => exact ⟨0, by omega, rfl, H⟩
  case round =>
    clear H
    obtain ⟨k, hk, rfl, H⟩ := hrel
    by_cases hlt : k < n
    · have hkl : k < l.length := by rw [HN.out]; exact hlt
      have hk1 : (k : Int) < (n : Int) := by omega
      have hs1 : -9223372036854775808 ≤ (k : Int) + 1 := by omega
      have hs2 : (k : Int) + 1 ≤ 9223372036854775807 := by omega
      obtain ⟨ad, e, _⟩ := leap_at H.now.1 k hkl
      cases e
      obtain ⟨bd, e, _⟩ := leap_at H.now.2 k hkl
      cases e
      obtain ⟨x, hxe⟩ : ∃ x, l[k] = x := ⟨_, rfl⟩
      obtain ⟨x0, x1, e0, e1⟩ : ∃ x0 x1, x.f0 = x0 ∧ x.f1 = x1 := ⟨_, _, rfl, rfl⟩
      have HC1 : Hid (∀ W, (Kd.C k58 W (some ad) l.length l ∧ Kd.C k58 W (some bd) l.length l) → ∀ j u, [Value.int .i64 x0, .int .i64 x1][j]? = some u → W.cell? ((ad.add (k * 2)).add j) = some u) := Lib.hid (fun W hW => by
        obtain ⟨ad', e', h⟩ := leap_at hW.1 k hkl
        cases e'
        rw [hxe, e0, e1] at h
        exact h)
      have HC2 : Hid (∀ W, (Kd.C k58 W (some ad) l.length l ∧ Kd.C k58 W (some bd) l.length l) → ∀ j u, [Value.int .i64 x0, .int .i64 x1][j]? = some u → W.cell? ((bd.add (k * 2)).add j) = some u) := Lib.hid (fun W hW => by
        obtain ⟨ad', e', h⟩ := leap_at hW.2 k hkl
        cases e'
        rw [hxe, e0, e1] at h
        exact h)
      clear hxe e0 e1
      go_upto_region 6 with fail
      refine ko_region0 H (by kernel_rfl) (by as_aux_lemma => kernel_rfl) (fun HR => ?_)
      repeat (first
        | ((with_reducible refine kg_load (ty := 58) rfl ?_); refine ko_cells (ad := ad.add (k * 2)) (cs := [.int .i64 x0, .int .i64 x1]) rfl (by rfl) (by rfl) Tryz.underlying58 rfl (by kernel_rfl) (fun W hC => HC1.out W (HR W hC).now) ?_; (try simp only [Act.put, lsA, lsZ, lsS, Nat.reduceAdd]))
        | ((with_reducible refine kg_load (ty := 58) rfl ?_); refine ko_cells (ad := bd.add (k * 2)) (cs := [.int .i64 x0, .int .i64 x1]) rfl (by rfl) (by rfl) Tryz.underlying58 rfl (by kernel_rfl) (fun W hC => HC2.out W (HR W hC).now) ?_; (try simp only [Act.put, lsA, lsZ, lsS, Nat.reduceAdd]))
        | ((with_reducible refine kg_load (ty := 58) rfl ?_); refine ko_sub HR (n := 2) rfl (by rfl) (by rfl) (by repeat (first | exact At.head | apply At.tail)) Tryz.underlying58 rfl (by kernel_rfl) (by simp only [List.toList_toArray, List.drop_succ_cons, List.drop_zero, List.take_succ_cons, List.take_zero]; rfl) (by rfl) ?_; (try simp only [Act.put, lsA, lsZ, lsS, Nat.reduceAdd]))
        | (refine ko_pure rfl (by rfl) (fun W K hK => by go_simp; exact hK.out) ?_; (try simp only [Act.put, lsA, lsZ, lsS, Nat.reduceAdd]))
        | (refine ko_off (by rfl) ?_; (try simp only [Act.put, lsA, lsZ, lsS, Nat.reduceAdd])))
      refine ko_end ?_
      intro w1 H1
      clear HR H
      have H := H1
      clear H1
      (try simp only [List.map_cons, List.map_nil, cv, List.cons_append, List.nil_append] at H)
      go_wp2
      go_roundw
      case rel => exact ⟨k + 1, by omega, by simp, H⟩
      case measure => simp [intOf]; omega
    · obtain rfl : k = n := by omega
      go_wp2
      go_ret
      exact ⟨rfl, H.below⟩
end Go.Proofs.YtbmfgcekglgliaaGreat.G

namespace Go.Proofs.YtbmfgcekglgliaaGreat.G
open Go.RowKit Go.Proofs.YtbmfgcekglgliaaGreatW.PrintWords Go.Proofs.YtbmfgcekglgliaaGreatW.PrintLast Go.Proofs.YtbmfgcekglgliaaGreatW.PrintMore Go.Proofs.YtbmfgcekglgliaaGreatPl Go.Proofs.YtbmfgcekglgliaaGreatEm Go.Proofs.YtbmfgcekglgliaaGreatKr Go.Proofs.YtbmfgcekglgliaaGreat.X
set_option linter.unusedVariables false
set_option linter.unusedSimpArgs false
set_option maxRecDepth 100000 in
set_option maxHeartbeats 8000000 in
theorem RSameM_calls (a0 a1 a2 a3 a4 a5 : Int) (b1 b2 : Bool) (a6 a7 a8 a9 a10 : Int) (A B : Option Addr) (c d n : Nat) (l : List Lp) (w : World) (hn : l.length = n) (hr : Kd.C k58 w A n l) (hr2 : Kd.C k58 w B n l) :
    Calls Tryz.prog 12 #[.agg #[.int .i64 a0, .int .i64 a1, .int .i64 a2, .int .i64 a3, .int .i64 a4, .int .i64 a5, .bool b1, .bool b2, .int .i64 a6, .int .i64 a7, .int .i64 a8, .int .i64 a9, .int .i64 a10, .slice A n c], .agg #[.int .i64 a0, .int .i64 a1, .int .i64 a2, .int .i64 a3, .int .i64 a4, .int .i64 a5, .bool b1, .bool b2, .int .i64 a6, .int .i64 a7, .int .i64 a8, .int .i64 a9, .int .i64 a10, .slice B n d]] w fun e w' => e = .returned (.bool true) ∧ Below w.heap.size w w' := by
  subst hn
  have H := Fr.start0 (M := fun _ => False) (A := fun _ => False) (w := w) (p := fun W => Kd.C k58 W A l.length l ∧ Kd.C k58 W B l.length l) (fun _ h => h.elim) (Tr.and (Go.Proofs.YtbmfgcekglgliaaGreatEv.Tr.of_C hr k58_heap) (Go.Proofs.YtbmfgcekglgliaaGreatEv.Tr.of_C hr2 k58_heap))
  clear hr hr2
  go_enter Tryz.func12, Tryz.ntmps12
  simp only [List.append_eq, List.cons_append, List.nil_append]
  go_wp2_with (first
    | (go_at_call 16; (with_reducible refine (RTables_calls _ _ _ _ l _ H.now.1 H.now.2).mono ?_); rintro e w' ⟨rfl, hb⟩; have H1 := H.call hb; clear hb; replace H := H1; clear H1)
    | ((with_reducible refine gate_dst (N := 2) rfl ?_); refine fr_box H rfl rfl rfl ?_; intro g2 w2 H1; replace H := H1; clear H1)
    | ((with_reducible refine gate_dst (N := 3) rfl ?_); refine fr_box H rfl rfl rfl ?_; intro g3 w3 H1; replace H := H1; clear H1)
    | ((with_reducible refine gate_dst (N := 6) rfl ?_); refine fr_get H rfl rfl rfl (by repeat (first | exact At.head | apply At.tail)) Tryz.underlying3 rfl (by simp only [List.getElem?_toArray, List.getElem?_cons_succ, List.getElem?_cons_zero]; rfl) ?_)
    | ((with_reducible refine gate_dst (N := 8) rfl ?_); refine fr_get H rfl rfl rfl (by repeat (first | exact At.head | apply At.tail)) Tryz.underlying3 rfl (by simp only [List.getElem?_toArray, List.getElem?_cons_succ, List.getElem?_cons_zero]; rfl) ?_)
    | ((with_reducible refine gate_dst (N := 12) rfl ?_); (try (refine gate_guard (by rfl) ?_; dsimp only)); refine fr_get H rfl rfl rfl (by repeat (first | exact At.head | apply At.tail)) Tryz.underlying3 rfl (by simp only [List.getElem?_toArray, List.getElem?_cons_succ, List.getElem?_cons_zero]; rfl) ?_)
    | ((with_reducible refine gate_dst (N := 14) rfl ?_); (try (refine gate_guard (by rfl) ?_; dsimp only)); refine fr_get H rfl rfl rfl (by repeat (first | exact At.head | apply At.tail)) Tryz.underlying3 rfl (by simp only [List.getElem?_toArray, List.getElem?_cons_succ, List.getElem?_cons_zero]; rfl) ?_)
    | ((with_reducible refine gate_dst (N := 19) rfl ?_); (try (refine gate_guard (by rfl) ?_; dsimp only)); refine fr_sub H (n := 2) rfl rfl rfl (by repeat (first | exact At.head | apply At.tail)) Tryz.underlying25 rfl (by kernel_rfl) (by simp only [List.toList_toArray, List.drop_succ_cons, List.drop_zero, List.take_succ_cons, List.take_zero]; rfl) (by rfl) ?_)
    | ((with_reducible refine gate_dst (N := 21) rfl ?_); (try (refine gate_guard (by rfl) ?_; dsimp only)); refine fr_sub H (n := 2) rfl rfl rfl (by repeat (first | exact At.head | apply At.tail)) Tryz.underlying25 rfl (by kernel_rfl) (by simp only [List.toList_toArray, List.drop_succ_cons, List.drop_zero, List.take_succ_cons, List.take_zero]; rfl) (by rfl) ?_)
    | ((with_reducible refine gate_dst (N := 26) rfl ?_); (try (refine gate_guard (by rfl) ?_; dsimp only)); refine fr_get H rfl rfl rfl (by repeat (first | exact At.head | apply At.tail)) Tryz.underlying3 rfl (by simp only [List.getElem?_toArray, List.getElem?_cons_succ, List.getElem?_cons_zero]; rfl) ?_)
    | ((with_reducible refine gate_dst (N := 28) rfl ?_); (try (refine gate_guard (by rfl) ?_; dsimp only)); refine fr_get H rfl rfl rfl (by repeat (first | exact At.head | apply At.tail)) Tryz.underlying3 rfl (by simp only [List.getElem?_toArray, List.getElem?_cons_succ, List.getElem?_cons_zero]; rfl) ?_)
    | ((with_reducible refine gate_dst (N := 33) rfl ?_); (try (refine gate_guard (by rfl) ?_; dsimp only)); refine fr_get H rfl rfl rfl (by repeat (first | exact At.head | apply At.tail)) Tryz.underlying3 rfl (by simp only [List.getElem?_toArray, List.getElem?_cons_succ, List.getElem?_cons_zero]; rfl) ?_)
    | ((with_reducible refine gate_dst (N := 35) rfl ?_); (try (refine gate_guard (by rfl) ?_; dsimp only)); refine fr_get H rfl rfl rfl (by repeat (first | exact At.head | apply At.tail)) Tryz.underlying3 rfl (by simp only [List.getElem?_toArray, List.getElem?_cons_succ, List.getElem?_cons_zero]; rfl) ?_)
    | ((with_reducible refine gate_dst (N := 40) rfl ?_); (try (refine gate_guard (by rfl) ?_; dsimp only)); refine fr_get H rfl rfl rfl (by repeat (first | exact At.head | apply At.tail)) Tryz.underlying4 rfl (by simp only [List.getElem?_toArray, List.getElem?_cons_succ, List.getElem?_cons_zero]; rfl) ?_)
    | ((with_reducible refine gate_dst (N := 42) rfl ?_); (try (refine gate_guard (by rfl) ?_; dsimp only)); refine fr_get H rfl rfl rfl (by repeat (first | exact At.head | apply At.tail)) Tryz.underlying4 rfl (by simp only [List.getElem?_toArray, List.getElem?_cons_succ, List.getElem?_cons_zero]; rfl) ?_)
    | ((with_reducible refine gate_dst (N := 47) rfl ?_); (try (refine gate_guard (by rfl) ?_; dsimp only)); refine fr_get H rfl rfl rfl (by repeat (first | exact At.head | apply At.tail)) Tryz.underlying4 rfl (by simp only [List.getElem?_toArray, List.getElem?_cons_succ, List.getElem?_cons_zero]; rfl) ?_)
    | ((with_reducible refine gate_dst (N := 49) rfl ?_); (try (refine gate_guard (by rfl) ?_; dsimp only)); refine fr_get H rfl rfl rfl (by repeat (first | exact At.head | apply At.tail)) Tryz.underlying4 rfl (by simp only [List.getElem?_toArray, List.getElem?_cons_succ, List.getElem?_cons_zero]; rfl) ?_)
    | ((with_reducible refine gate_dst (N := 54) rfl ?_); (try (refine gate_guard (by rfl) ?_; dsimp only)); refine fr_sub H (n := 2) rfl rfl rfl (by repeat (first | exact At.head | apply At.tail)) Tryz.underlying25 rfl (by kernel_rfl) (by simp only [List.toList_toArray, List.drop_succ_cons, List.drop_zero, List.take_succ_cons, List.take_zero]; rfl) (by rfl) ?_)
    | ((with_reducible refine gate_dst (N := 56) rfl ?_); (try (refine gate_guard (by rfl) ?_; dsimp only)); refine fr_sub H (n := 2) rfl rfl rfl (by repeat (first | exact At.head | apply At.tail)) Tryz.underlying25 rfl (by kernel_rfl) (by simp only [List.toList_toArray, List.drop_succ_cons, List.drop_zero, List.take_succ_cons, List.take_zero]; rfl) (by rfl) ?_)
    | ((with_reducible refine gate_dst (N := 61) rfl ?_); (try (refine gate_guard (by rfl) ?_; dsimp only)); refine fr_get H rfl rfl rfl (by repeat (first | exact At.head | apply At.tail)) Tryz.underlying3 rfl (by simp only [List.getElem?_toArray, List.getElem?_cons_succ, List.getElem?_cons_zero]; rfl) ?_)
    | ((with_reducible refine gate_dst (N := 63) rfl ?_); (try (refine gate_guard (by rfl) ?_; dsimp only)); refine fr_get H rfl rfl rfl (by repeat (first | exact At.head | apply At.tail)) Tryz.underlying3 rfl (by simp only [List.getElem?_toArray, List.getElem?_cons_succ, List.getElem?_cons_zero]; rfl) ?_)
    | ((with_reducible refine gate_dst (N := 68) rfl ?_); (try (refine gate_guard (by rfl) ?_; dsimp only)); refine fr_sub H (n := 2) rfl rfl rfl (by repeat (first | exact At.head | apply At.tail)) Tryz.underlying28 rfl (by kernel_rfl) (by simp only [List.toList_toArray, List.drop_succ_cons, List.drop_zero, List.take_succ_cons, List.take_zero]; rfl) (by rfl) ?_)
    | ((with_reducible refine gate_dst (N := 70) rfl ?_); (try (refine gate_guard (by rfl) ?_; dsimp only)); refine fr_sub H (n := 2) rfl rfl rfl (by repeat (first | exact At.head | apply At.tail)) Tryz.underlying28 rfl (by kernel_rfl) (by simp only [List.toList_toArray, List.drop_succ_cons, List.drop_zero, List.take_succ_cons, List.take_zero]; rfl) (by rfl) ?_)
    | ((with_reducible refine gate_dst (N := 75) rfl ?_); (try (refine gate_guard (by rfl) ?_; dsimp only)); refine fr_get H rfl rfl rfl (by repeat (first | exact At.head | apply At.tail)) Tryz.underlying26 rfl (by simp only [List.getElem?_toArray, List.getElem?_cons_succ, List.getElem?_cons_zero]; rfl) ?_)
    | ((with_reducible refine gate_dst (N := 77) rfl ?_); (try (refine gate_guard (by rfl) ?_; dsimp only)); refine fr_get H rfl rfl rfl (by repeat (first | exact At.head | apply At.tail)) Tryz.underlying26 rfl (by simp only [List.getElem?_toArray, List.getElem?_cons_succ, List.getElem?_cons_zero]; rfl) ?_)
    | fail)
  go_ret
  exact ⟨rfl, H.below⟩
end Go.Proofs.YtbmfgcekglgliaaGreat.G
