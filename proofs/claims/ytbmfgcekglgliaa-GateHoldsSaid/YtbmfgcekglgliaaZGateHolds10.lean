/- Texts Gj, Sk, Gq, Gi, Gw, Gb2, in one file, without what is not needed here. -/
import Derived.Shelf.SlSortCmp.InsertionK
import Derived.Ground.SlsfProg
import Derived.Test.YtbmfgcekglgliaaProg
import Derived.Deep.DeepCutAuto
import Derived.Test.YtbmfgcekglgliaaZGateHolds9
namespace Go.Proofs.Ytbmfgcekglgliaa.G
open Go.RowKit Go.Proofs.YtbmfgcekglgliaaW.PrintWords Go.Proofs.YtbmfgcekglgliaaW.PrintLast Go.Proofs.YtbmfgcekglgliaaW.PrintMore Go.Proofs.YtbmfgcekglgliaaPl Go.Proofs.YtbmfgcekglgliaaEm Go.Proofs.YtbmfgcekglgliaaKr Go.Proofs.YtbmfgcekglgliaaRz Go.Proofs.Ytbmfgcekglgliaa.X
set_option linter.unusedVariables false
set_option linter.unusedSimpArgs false
abbrev Hrd := S45
structure Hd where
  kind : Int
  frm : Int
  lo : Int
  hi : Int
  held : Int
  hops : Int
  good : Bool
  ref : Bool
  slo : Int
  shi : Int
  pulse : Int
  st : Int
  sn : Int
  A : Option Addr
  n : Nat
  c : Nat
  age : Int
deriving Inhabited
def encH (h : Hd) : List Value := [.int .i64 h.kind, .int .i64 h.frm, .int .i64 h.lo, .int .i64 h.hi, .int .i64 h.held, .int .i64 h.hops, .bool h.good, .bool h.ref, .int .i64 h.slo, .int .i64 h.shi, .int .i64 h.pulse, .int .i64 h.st, .int .i64 h.sn, .slice h.A h.n h.c, .int .i64 h.age]
theorem encH_len (h : Hd) : (encH h).length = 15 := rfl
theorem encH_one (h : Hd) : ∀ v ∈ encH h, v.oneCell' = true := by
  intro v hv
  simp only [encH, List.mem_cons, List.not_mem_nil, or_false] at hv
  rcases hv with rfl | rfl | rfl | rfl | rfl | rfl | rfl | rfl | rfl | rfl | rfl | rfl | rfl | rfl | rfl <;> rfl
def flH (l : List Hd) : List Value := l.flatMap encH
theorem flH_snoc (l : List Hd) (x : Hd) : flH (l ++ [x]) = flH l ++ encH x := by unfold flH; rw [List.flatMap_append]; simp
theorem flH_length : ∀ l : List Hd, (flH l).length = l.length * 15
  | [] => rfl
  | x :: l => by
    show (encH x ++ flH l).length = _
    rw [List.length_append, encH_len, flH_length l, List.length_cons]; omega
theorem flH_at : ∀ (l : List Hd) (j i : Nat) (q : Hd) (u : Value), l[j]? = some q → (encH q)[i]? = some u → (flH l)[j * 15 + i]? = some u
  | [], j, i, q, u, h, _ => by simp at h
  | x :: l, 0, i, q, u, h, hu => by
    simp at h
    subst h
    rw [show 0 * 15 + i = i by omega]
    show (encH x ++ flH l)[i]? = some u
    rw [List.getElem?_append_left (List.getElem?_eq_some_iff.1 hu).1]
    exact hu
  | x :: l, j + 1, i, q, u, h, hu => by
    have := flH_at l j i q u (by simpa using h) hu
    rw [show (j + 1) * 15 + i = (encH x).length + (j * 15 + i) by rw [encH_len]; omega]
    show (encH x ++ flH l)[(encH x).length + (j * 15 + i)]? = some u
    rw [List.getElem?_append_right (by omega)]
    simpa using this
def RowH (w : World) (A : Option Addr) (l : List Hd) : Prop := ∀ k (hk : k < l.length), ∃ ad, A = some ad ∧ ∀ j u, (encH l[k])[j]? = some u → w.cell? ((ad.add (k * 15)).add j) = some u
theorem RowH.below {w w' : World} {A : Option Addr} {l : List Hd} (h : RowH w A l) (hb : Below w.heap.size w w') : RowH w' A l := fun k hk => by
  obtain ⟨ad, e, hc⟩ := h k hk
  exact ⟨ad, e, fun j u hu => pw_cell_below hb (hc j u hu)⟩
theorem rowH_own {W : World} {b n c : Nat} {A : Option Addr} {l : List Hd} (h : W.ownsRow b 45 15 (.slice A n c) n (flH l)) : RowH W A l := by
  intro k hk
  obtain ⟨h1, ⟨h2, h3⟩ | ⟨g, cap, cur, h2, h3, h4, h5, h6, h7, h8⟩⟩ := h
  · rw [flH_length] at h1; omega
  · injection h2 with e1
    refine ⟨⟨g, 0, none⟩, e1, fun j u hu => ?_⟩
    rw [add_add]
    rw [show ((⟨g, 0, none⟩ : Addr).add (k * 15 + j)) = ⟨g, k * 15 + j, none⟩ by
      unfold Addr.add
      split
      · rename_i h0; simp at h0; obtain ⟨e1, e2⟩ := h0; rw [show k * 15 + j = 0 by omega]
      · simp, blk_cell h4]
    have e : (flH l)[k * 15 + j]? = some u := flH_at l k j l[k] u (List.getElem?_eq_getElem hk) hu
    rw [← h8, List.getElem?_take] at e
    split at e
    · simpa using e
    · cases e
def hdOf (x : Hrd) (A : Option Addr) (c : Nat) : Hd := ⟨x.f0.f0, x.f0.f1, x.f0.f2.f0, x.f0.f2.f1, x.f0.f3, x.f0.f4, x.f0.f5, x.f0.f6, x.f0.f7.f0, x.f0.f7.f1, x.f0.f8, x.f0.f9.f0, x.f0.f9.f1, A, x.f0.f10.length, c, x.f1⟩
theorem rowH_in {w : World} {A : Option Addr} {l : List Hrd} (h : Kd.C k45 w A l.length l) : ∃ hs : List Hd, hs.length = l.length ∧ (∀ k (hk : k < hs.length) (hl : k < l.length), ∃ A c, hs[k] = hdOf l[k] A c ∧ l[k].f0.f10.length ≤ c ∧ Kd.C k82 w A l[k].f0.f10.length l[k].f0.f10) ∧ RowH w A hs := by
  have each : ∀ k, k < l.length → ∃ x : Hd, ∃ (hl : k < l.length), (∃ A1 c, x = hdOf l[k] A1 c ∧ l[k].f0.f10.length ≤ c ∧ Kd.C k82 w A1 l[k].f0.f10.length l[k].f0.f10) ∧ ∃ ad, A = some ad ∧ ∀ j u, (encH x)[j]? = some u → w.cell? ((ad.add (k * 15)).add j) = some u := by
    intro k hk
    obtain ⟨ad, c, e, _, hK, hc⟩ := Kd.C_get h z45 k (by omega) (by omega)
    have hg : l.getD (k : Int).toNat z45 = l[k] := by simp [List.getD_eq_getElem?_getD, hk]
    rw [hg] at hK
    obtain ⟨A1, c1, e2, e3, e4⟩ := k45_open hK
    refine ⟨hdOf l[k] A1 c1, hk, ⟨A1, c1, rfl, e3, e4⟩, ad, e, fun j u hu => ?_⟩
    rw [add_add]
    have := hc j u (by rw [e2]; exact hu)
    rw [show (k : Int).toNat = k by omega] at this
    exact this
  obtain ⟨hs, h1, h2⟩ := Go.Proofs.YtbmfgcekglgliaaRo.list_of (Q := fun k x => ∃ (hl : k < l.length), (∃ A1 c, x = hdOf l[k] A1 c ∧ l[k].f0.f10.length ≤ c ∧ Kd.C k82 w A1 l[k].f0.f10.length l[k].f0.f10) ∧ ∃ ad, A = some ad ∧ ∀ j u, (encH x)[j]? = some u → w.cell? ((ad.add (k * 15)).add j) = some u) l.length each
  refine ⟨hs, h1, fun k hk hl => ?_, fun k hk => ?_⟩
  · obtain ⟨_, h3, _⟩ := h2 k hs[k] (List.getElem?_eq_getElem hk)
    exact h3
  · obtain ⟨_, _, h3⟩ := h2 k hs[k] (List.getElem?_eq_getElem hk)
    exact h3
set_option maxRecDepth 100000 in
set_option maxHeartbeats 1000000 in
theorem Told1_calls (x : Hd) (gm : Nat) (mf : Int) (w : World) (h : w.cell? ⟨gm, 1, none⟩ = some (.int .i64 mf)) : Calls Try.prog 39 #[.agg (encH x).toArray, .pointer (some ⟨gm, 0, none⟩)] w fun e w' => e = .returned (.bool (x.frm == mf)) ∧ Below w.heap.size w w' := by
  have H := Fr.start0 (M := fun _ => False) (A := fun _ => False) (w := w) (p := fun W => W.cell? ⟨gm, 1, none⟩ = some (.int .i64 mf)) (fun _ h => h.elim) (fun W hW => by
    have hb : Below w.heap.size w { w with heap := W.heap } → True := fun _ => trivial
    have hg := World.block_lt_of_cell? w _ h
    have e := hW gm id hg
    unfold World.cell? at h ⊢
    rw [← h]
    simp only [e])
  obtain ⟨kind, frm, lo, hi, held, hops, good, ref, slo, shi, pulse, st, sn, A, n, c, age⟩ := x
  simp only [encH]
  clear h
  go_enter Try.func39, Try.ntmps39
  go_wp2_with (first
    | ((with_reducible refine gate_dst (N := 8) rfl ?_); refine load_cell rfl rfl rfl Try.underlying3 rfl H.now ?_)
    | ((with_reducible refine gate_dst (N := 2) rfl ?_); refine fr_box H rfl rfl rfl ?_; intro g2 w2 H1; clear H; have H := H1; clear H1)
    | ((with_reducible refine gate_dst (N := 6) rfl ?_); refine fr_get H rfl rfl rfl (by repeat (first | exact At.head | apply At.tail)) Try.underlying3 rfl (by simp only [List.getElem?_toArray, List.getElem?_cons_succ, List.getElem?_cons_zero]; rfl) ?_)
    | ((with_reducible refine gate_dst (N := 8) rfl ?_); refine fr_get H rfl rfl rfl (by repeat (first | exact At.head | apply At.tail)) Try.underlying3 rfl (by simp only [List.getElem?_toArray, List.getElem?_cons_succ, List.getElem?_cons_zero]; rfl) ?_)
    | fail)
  go_ret
  exact ⟨rfl, H.below⟩
set_option maxRecDepth 100000 in
set_option maxHeartbeats 4000000 in
theorem IndexH_calls (A : Option Addr) (c : Nat) (l : List Hd) (gm : Nat) (mf : Int) (w : World) (hr : RowH w A l) (hl : l.length ≤ 9223372036854775807) (hm : w.cell? ⟨gm, 1, none⟩ = some (.int .i64 mf)) :
    Calls Try.prog 57 #[.slice A l.length c, .func (.func 39) #[] #[.pointer (some ⟨gm, 0, none⟩)]] w fun e w' => ∃ i : Int, e = .returned (.int .i64 i) ∧ Hid (decide (0 ≤ i) = l.any (fun x => x.frm == mf)) ∧ Hid (Below w.heap.size w w') := by
  have R := Lib.hid hr
  have HM := Lib.hid hm
  obtain ⟨n, hn⟩ : ∃ n, l.length = n := ⟨_, rfl⟩
  have HN := Lib.hid hn
  rw [hn] at hl ⊢
  clear hr hn hm
  go_enter Try.func57, Try.ntmps57
  go_wp2
  go_loopw [8] (fun v8 wr => ∃ k : Nat, k ≤ n ∧ v8 = .int .i64 k ∧ Hid (∀ x ∈ l.take k, (x.frm == mf) = false) ∧ Hid (Below w.heap.size w wr)) (fun v8 _ => n - (intOf v8).toNat)
  case atStart => exact ⟨0, by omega, rfl, Lib.hid (fun x hx => by simp at hx), Lib.hid (Below.refl _ _)⟩
  case round =>
    obtain ⟨k, hk, rfl, HQ, HB⟩ := hrel
    by_cases hlt : k < n
    · have hkl : k < l.length := by rw [HN.out]; exact hlt
      have hk1 : (k : Int) < (n : Int) := by omega
      have hs1 : -9223372036854775808 ≤ (k : Int) + 1 := by omega
      have hs2 : (k : Int) + 1 ≤ 9223372036854775807 := by omega
      obtain ⟨x, hx⟩ : ∃ x, l[k] = x := ⟨_, rfl⟩
      obtain ⟨ad, e, hc⟩ := (R.out.below HB.out) k hkl
      cases e
      rw [hx] at hc
      have HC := Lib.hid hc
      have HX : Hid (l.take (k + 1) = l.take k ++ [x]) := Lib.hid (by rw [List.take_succ_eq_append_getElem hkl, hx])
      have HME : Hid (x ∈ l) := Lib.hid (hx ▸ List.getElem_mem hkl)
      obtain ⟨b, hb⟩ : ∃ b, (x.frm == mf) = b := ⟨_, rfl⟩
      have HB2 := Lib.hid hb
      have HD : Hid (∀ W, Below w.heap.size w W → Calls Try.prog 39 #[.agg (encH x).toArray, .pointer (some ⟨gm, 0, none⟩)] W fun e w' => e = .returned (.bool b) ∧ Below W.heap.size W w') := Lib.hid (fun W h => hb ▸ Told1_calls x gm mf W (pw_cell_below h HM.out))
      have HLE : Hid ((encH x).length = 15) := Lib.hid rfl
      generalize encH x = cs at HC HD HLE
      clear hx hb hc
      cases b with
      | false =>
        go_wp2_with (first
          | ((with_reducible refine gate_dst (N := 15) rfl ?_); refine load_cells rfl rfl (ad := ad.add (k * 15)) (cs := cs) ?hx Try.underlying45 rfl (by rw [HLE.out]; kernel_rfl) HC.out ?_; (case hx => first | rfl | (go_simp; done) | (go_simp; rfl))))
        refine (HD.out _ HB.out).mono ?_
        rintro e w' ⟨rfl, hb⟩
        go_wp2
        go_roundw
        case rel => exact ⟨k + 1, by omega, by simp, Lib.hid (fun y hy => by
          rw [HX.out] at hy
          rcases List.mem_append.1 hy with hy | hy
          · exact HQ.out y hy
          · rw [List.mem_singleton.1 hy]; exact HB2.out), Lib.hid (HB.out.trans (hb.mono HB.out.size))⟩
        case measure => simp [intOf]; omega
      | true =>
        go_wp2_with (first
          | ((with_reducible refine gate_dst (N := 15) rfl ?_); refine load_cells rfl rfl (ad := ad.add (k * 15)) (cs := cs) ?hx Try.underlying45 rfl (by rw [HLE.out]; kernel_rfl) HC.out ?_; (case hx => first | rfl | (go_simp; done) | (go_simp; rfl))))
        refine (HD.out _ HB.out).mono ?_
        rintro e w' ⟨rfl, hb⟩
        go_wp2
        go_ret
        refine ⟨_, rfl, Lib.hid ?_, Lib.hid (HB.out.trans (hb.mono HB.out.size))⟩
        rw [List.any_eq_true.2 ⟨x, HME.out, HB2.out⟩]
        exact decide_eq_true (Int.natCast_nonneg k)
    · obtain rfl : k = n := by omega
      go_wp2
      go_ret
      refine ⟨_, rfl, Lib.hid ?_, HB⟩
      have : l.any (fun x => x.frm == mf) = false := List.any_eq_false.2 (fun x hx => by rw [HQ.out x (by rw [List.take_of_length_le (by rw [HN.out]; exact Nat.le_refl _)]; exact hx)]; simp)
      rw [this]
      rfl
set_option maxRecDepth 100000 in
set_option maxHeartbeats 4000000 in
theorem ContainsH_calls (A : Option Addr) (c : Nat) (l : List Hd) (gm : Nat) (mf : Int) (w : World) (hr : RowH w A l) (hl : l.length ≤ 9223372036854775807) (hm : w.cell? ⟨gm, 1, none⟩ = some (.int .i64 mf)) :
    Calls Try.prog 38 #[.slice A l.length c, .func (.func 39) #[] #[.pointer (some ⟨gm, 0, none⟩)]] w fun e w' => e = .returned (.bool (l.any (fun x => x.frm == mf))) ∧ Below w.heap.size w w' := by
  have HI := Lib.hid (IndexH_calls A c l gm mf w hr hl hm)
  obtain ⟨n, hn⟩ : ∃ n, l.length = n := ⟨_, rfl⟩
  obtain ⟨b, hb⟩ : ∃ b, l.any (fun x => x.frm == mf) = b := ⟨_, rfl⟩
  rw [hn, hb] at HI
  rw [hn, hb]
  clear hr hl hm hn hb
  go_enter Try.func38, Try.ntmps38
  go_wp2_with (go_at_call 57; refine HI.out.mono ?_; rintro e w1 ⟨i, rfl, H1, HB⟩)
  go_ret
  exact ⟨by rw [← H1.out]; first | done | rfl, HB.out⟩
end Go.Proofs.Ytbmfgcekglgliaa.G

namespace Go.Proofs
open Go.Shelf
def Try.insLays_ren : Go.Shelf.Ren := ⟨fun | 20 => 67 | n => n, fun | 24 => 45 | 22 => 32 | 3 => 3 | 25 => 89 | 4 => 4 | 0 => 0 | n => n, fun | n => n⟩
theorem Try.insLays : Go.Proofs.SlLaysF0.n20 Try.prog Try.insLays_ren := {
  mixed := by kernel_rfl
  f20 := ⟨Try.f67.name, by decide, Try.func67.trans (congrArg some (by kernel_rfl))⟩
  t0 := Try.underlying0
  a0 := Try.isAgg0
  z0 := Try.sizeOf0
  v0 := Try.zeroValue0
  t3 := Try.underlying3
  a3 := Try.isAgg3
  z3 := Try.sizeOf3
  v3 := Try.zeroValue3
  t4 := Try.underlying4
  a4 := Try.isAgg4
  z4 := Try.sizeOf4
  v4 := Try.zeroValue4
  t22 := Try.underlying32
  a22 := Try.isAgg32
  z22 := Try.sizeOf32
  v22 := Try.zeroValue32
  t25 := Try.underlying89
  a25 := Try.isAgg89
  z25 := Try.sizeOf89
  v25 := Try.zeroValue89 }
end Go.Proofs

namespace Go.Proofs.Ytbmfgcekglgliaa.G
open Go.RowKit Go.Sort Go.Proofs.YtbmfgcekglgliaaW.PrintWords Go.Proofs.YtbmfgcekglgliaaW.PrintLast Go.Proofs.YtbmfgcekglgliaaW.PrintMore
set_option linter.unusedVariables false
set_option linter.unusedSimpArgs false
structure Hb where
  h : Hd
  lo : 0 ≤ h.frm
  hi : h.frm < 16
instance : Inhabited Hb := ⟨⟨⟨0, 0, 0, 0, 0, 0, false, false, 0, 0, 0, 0, 0, none, 0, 0, 0⟩, by decide, by decide⟩⟩
def encB (x : Hb) : List Value := encH x.h
def cfB (x y : Hb) : Int := x.h.frm - y.h.frm
theorem swoB : SWO (ltOf cfB) := by
  constructor
  · intro x; unfold ltOf cfB; simp
  · intro x y z h1 h2
    unfold ltOf cfB at *
    have := of_decide_eq_true h1
    have := of_decide_eq_true h2
    exact decide_eq_true (by omega)
  · intro x y z h1 h2
    unfold ltOf cfB at *
    have := of_decide_eq_false h1
    have := of_decide_eq_false h2
    exact decide_eq_false (by omega)
def unB (l : List Hb) : List Hd := l.map (·.h)
def sortB (l : List Hb) : List Hb := (insertionSort (ltOf cfB) l.toArray 0 l.length).toList
theorem sortB_spec (l : List Hb) : (sortB l).Perm l ∧ (sortB l).Pairwise (fun x y => x.h.frm ≤ y.h.frm) := by
  obtain ⟨⟨h1, _, h3⟩, h4⟩ := insertionSort_holds (lt := ltOf cfB) swoB l.toArray 0 l.length (Nat.zero_le _) (by simp)
  constructor
  · unfold sortB
    have e1 : ∀ a : Array Hb, a.size = l.length → (a.extract 0 l.length).toList = a.toList := fun a ha => by simp [← ha]
    rw [e1 _ (by rw [h1]; simp), e1 _ (by simp)] at h3
    simpa using h3
  · rw [List.pairwise_iff_getElem]
    intro i j hi hj hij
    have hs : (insertionSort (ltOf cfB) l.toArray 0 l.length).size = l.length := by rw [h1]; simp
    have hj' : j < l.length := by unfold sortB at hj; rw [Array.length_toList, hs] at hj; exact hj
    have := h4 i j (Nat.zero_le _) hij hj'
    have := of_decide_eq_false (p := cfB _ _ < 0) this
    have e : ∀ k (hk : k < (sortB l).length), (sortB l)[k] = (insertionSort (ltOf cfB) l.toArray 0 l.length)[k]! := fun k hk => by
      have hk' : k < (insertionSort (ltOf cfB) l.toArray 0 l.length).size := by unfold sortB at hk; rw [Array.length_toList] at hk; exact hk
      rw [getElem!_pos _ k hk']
      exact Array.getElem_toList hk'
    rw [e i hi, e j hj]
    generalize insertionSort (ltOf cfB) l.toArray 0 l.length = arr at this ⊢
    unfold cfB at this
    omega
theorem sortB_length (l : List Hb) : (sortB l).length = l.length := (sortB_spec l).1.length_eq
set_option maxHeartbeats 1000000 in
theorem Told2_calls (x y : Hb) (w : World) : Calls Try.prog 41 #[.agg (encB x).toArray, .agg (encB y).toArray] w fun e w' => e = .returned (.int .i64 (cfB x y)) ∧ ∃ q os', w' = grow (w.drewN q) os' := by
  obtain ⟨⟨kind, frm, lo, hi, held, hops, good, ref, slo, shi, pulse, st, sn, A, n, c, age⟩, b1, b2⟩ := x
  obtain ⟨⟨kind2, frm2, lo2, hi2, held2, hops2, good2, ref2, slo2, shi2, pulse2, st2, sn2, A2, n2, c2, age2⟩, b3, b4⟩ := y
  have hw : IntKind.i64.wrap (frm - frm2) = frm - frm2 := by rw [IntKind.wrap_i64]; dsimp only at b1 b2 b3 b4; omega
  unfold cfB
  simp only [encB, encH]
  clear b1 b2 b3 b4
  go_enter Try.func41, Try.ntmps41
  go_wp2
  go_ret
  exact ⟨by simp only [hw]; try rfl, 0, _, by rw [alloc_eq_grow, alloc_eq_grow, grow_grow]; rfl⟩
theorem flatB (l : List Hb) : (flatK encB 15 l.toArray).toList = flH (unB l) := by
  apply List.ext_getElem?
  intro t
  have hl : (flH (unB l)).length = l.length * 15 := by rw [flH_length]; unfold unB; rw [List.length_map]
  by_cases ht : t < l.length * 15
  · have hd : t / 15 < l.length := by omega
    have e1 : (flH (unB l))[t]? = some (encB l[t / 15])[t % 15]! := by
      have hm : t % 15 < (encB l[t / 15]).length := by show t % 15 < 15; omega
      have := flH_at (unB l) (t / 15) (t % 15) (l[t / 15]).h (encB l[t / 15])[t % 15]! (by unfold unB; rw [List.getElem?_map, List.getElem?_eq_getElem hd]; rfl) (by
        show (encB l[t / 15])[t % 15]? = _
        rw [List.getElem?_eq_getElem hm, getElem!_pos (encB l[t / 15]) (t % 15) hm])
      rw [show t / 15 * 15 + t % 15 = t by omega] at this
      exact this
    rw [e1, Array.getElem?_toList]
    have hs : t < (flatK encB 15 l.toArray).size := by rw [size_flatK]; simpa using ht
    rw [Array.getElem?_eq_getElem hs]
    have := get_flatK encB 15 l.toArray t (by simpa using ht)
    rw [getElem!_pos (flatK encB 15 l.toArray) t hs] at this
    rw [this]
    simp [hd]
  · have hs : (flatK encB 15 l.toArray).toList.length = l.length * 15 := by rw [Array.length_toList, size_flatK]; simp
    rw [List.getElem?_eq_none (by omega), List.getElem?_eq_none (by omega)]
theorem holdsB {W : World} {g : Nat} {cur : Array Value} {e : TypeId} {l : List Hb} (hb : W.heap[g]? = some (.cells cur e (0, 0))) (ht : cur.toList.take (l.length * 15) = flH (unB l)) : HoldsK encB 15 W g 0 l.toArray := by
  intro j hj
  rw [size_flatK] at hj
  have hj' : j < l.length * 15 := by simpa using hj
  refine ⟨?_, by simp [World.frozen?, hb]⟩
  have h1 : (cur.toList.take (l.length * 15))[j]? = (flatK encB 15 l.toArray).toList[j]? := by rw [ht, flatB]
  rw [List.getElem?_take_of_lt hj'] at h1
  rw [Nat.zero_add, blk_cell hb, ← Array.getElem?_toList, h1, Array.getElem?_toList]
  have hs : j < (flatK encB 15 l.toArray).size := by rw [size_flatK]; exact hj
  rw [Array.getElem?_eq_getElem hs, getElem!_pos _ j hs]
  rfl
theorem heapB {w : World} {g n : Nat} {os : Array Obj} {cur : Array Value} {e : TypeId} {fr : Nat × Nat} (d : Array Hb) (hb : w.heap[g]? = some (.cells cur e fr)) :
    (sortWorldK encB 15 w g 0 n d os).heap[g]? = some (.cells (putCells id 0 (flatK encB 15 d) cur) e fr) := by
  have hg : g < w.heap.size := (Array.getElem?_eq_some_iff.1 hb).1
  unfold sortWorldK putRowK
  rw [heap_grow_old _ _ (by simpa using hg)]
  simp [putRow, mapBlock, Sort.ahead, Array.getElem?_modify, hb, onCells]
theorem grownB {w : World} {g n : Nat} {os : Array Obj} (d : Array Hb) : w.grownBy (sortWorldK encB 15 w g 0 n d os) (some g) := by
  unfold sortWorldK putRowK
  refine ⟨rfl, rfl, rfl, by simp, fun k hk hne => ?_⟩
  rw [heap_grow_old _ _ (by simpa using hk)]
  have : g ≠ k := fun e => hne (by rw [e])
  simp [putRow, mapBlock, Sort.ahead, Array.getElem?_modify, this]
theorem takeB {cur : Array Value} {l : List Hb} (h : l.length * 15 ≤ cur.size) : (putCells id 0 (flatK encB 15 l.toArray) cur).toList.take (l.length * 15) = flH (unB l) := by
  rw [← flatB]
  apply List.ext_getElem?
  intro j
  have hs : (flatK encB 15 l.toArray).size = l.length * 15 := by rw [size_flatK]; simp
  by_cases hj : j < l.length * 15
  · rw [List.getElem?_take_of_lt hj, Array.getElem?_toList, Array.getElem?_toList]
    simp [putCells, hs, hj, show j < cur.size by omega]
  · rw [List.getElem?_take_eq_none (by omega), List.getElem?_eq_none (by rw [Array.length_toList, hs]; omega)]
set_option maxHeartbeats 2000000 in
theorem Ins_calls (g cap : Nat) (l : List Hb) (w : World) (hH : HoldsK encB 15 w g 0 l.toArray) (hg : g < w.heap.size) (hsz : l.length < 20) :
    Calls Try.prog 67 #[.slice (some ⟨g, 0, none⟩) l.length cap, .int .i64 0, .int .i64 l.length, .func (.func 41) #[] #[]] w fun e w' => e = .returned (.tuple #[]) ∧ ∃ n os, w' = sortWorldK encB 15 w g 0 n (sortB l).toArray os := by
  have eg : ∀ args w, (callFunc 41 args).run Try.prog w = .ok (.enter 41 args) w := enters_of Try.func41 (by kernel_rfl) rfl
  have := AnyQ.insertionSortCmpFunc Try.insLays 15 Try.isAgg45 Try.sizeOf45 encB (fun x => encH_len x.h) (fun x v hv => encH_one x.h v hv) cfB 41 #[] g 0 cap 0 l.length l.toArray w eg (fun m os dk hs x y => Told2_calls x y _) hH hg (Nat.zero_le _) (by simp) (by simp; omega)
  have e1 : (sortB l).toArray = insertionSort (ltOf cfB) l.toArray 0 l.length := by unfold sortB; simp
  rw [e1]
  have e2 : Try.insLays_ren.f 20 = 67 := rfl
  rw [e2] at this
  simpa using this
set_option maxRecDepth 100000 in
set_option maxHeartbeats 4000000 in
theorem InsNone_calls (A : Option Addr) (cap : Nat) (w : World) : Calls Try.prog 67 #[.slice A 0 cap, .int .i64 0, .int .i64 0, .func (.func 41) #[] #[]] w fun e w' => e = .returned (.tuple #[]) ∧ w' = w := by
  go_enter Try.func67, Try.ntmps67
  go_wp2
  go_loop [8] (fun v => v = .int .i64 1) (fun v => 0)
  case atStart => rfl
  case round =>
    subst hrel
    go_wp2
    refine bodyPost_end (results_none rfl _ _ _) rfl ?_
    exact ⟨rfl, rfl⟩
set_option maxRecDepth 100000 in
set_option maxHeartbeats 4000000 in
theorem Stab_calls (A : Option Addr) (n cap : Nat) (R : World → Prop) (w : World) (hn : n < 20) (hI : Calls Try.prog 67 #[.slice A n cap, .int .i64 0, .int .i64 n, .func (.func 41) #[] #[]] w fun e w' => e = .returned (.tuple #[]) ∧ R w') :
    Calls Try.prog 40 #[.slice A n cap, .func (.func 41) #[] #[]] w fun e w' => e = .returned (.tuple #[]) ∧ R w' := by
  have hS : Calls Try.prog 58 #[.slice A n cap, .int .i64 n, .func (.func 41) #[] #[]] w fun e w' => e = .returned (.tuple #[]) ∧ R w' := by
    have HI := Lib.hid hI
    have h1 : ¬ (20 : Int) ≤ (n : Int) := by omega
    have h2 : ¬ (20 : Int) < (n : Int) := by omega
    clear hI hn
    go_enter Try.func58, Try.ntmps58
    go_wp2
    go_loop [7, 8] (fun v7 v8 => v7 = .int .i64 0 ∧ v8 = .int .i64 20) (fun _ _ => 0)
    case atStart => exact ⟨rfl, rfl⟩
    case round =>
      obtain ⟨rfl, rfl⟩ := hrel
      go_wp2_with (first
        | (go_at_call 67; (with_reducible refine HI.out.mono ?_); rintro e w' ⟨rfl, hR⟩; have HR := Lib.hid hR; clear hR)
        | fail)
      go_loop [6] (fun v => v = .int .i64 20) (fun v => 0)
      case atStart => rfl
      case round =>
        subst hrel
        go_wp2
        refine bodyPost_end (results_none rfl _ _ _) rfl ?_
        exact ⟨rfl, HR.out⟩
  have HS := Lib.hid hS
  clear hS hI hn
  go_enter Try.func40, Try.ntmps40
  go_wp2_with (first
    | (go_at_call 58; (with_reducible refine HS.out.mono ?_); rintro e w' ⟨rfl, hR⟩; have HR := Lib.hid hR; clear hR)
    | fail)
  refine bodyPost_end (results_none rfl _ _ _) rfl ?_
  exact ⟨rfl, HR.out⟩
theorem SortH_calls (b : Nat) (v : Value) (l : List Hb) (w : World) (hO : w.ownsRow b 45 15 v l.length (flH (unB l))) (hl : l.length < 20) :
    Calls Try.prog 40 #[v, .func (.func 41) #[] #[]] w fun e w' => e = .returned (.tuple #[]) ∧ w'.ownsRow b 45 15 v l.length (flH (unB (sortB l))) ∧ w.grownBy w' v.ownBlock := by
  rcases hO with ⟨h1, ⟨rfl, h0⟩ | ⟨g, cap, cur, rfl, h3, h4, h5, h6, h7, h8⟩⟩
  · have hn : l = [] := List.eq_nil_of_length_eq_zero h0
    subst hn
    refine (Stab_calls none 0 0 (fun w' => w' = w) w (by omega) (InsNone_calls none 0 w)).mono ?_
    rintro e w' ⟨rfl, rfl⟩
    exact ⟨rfl, ⟨by rw [flH_length]; unfold unB; rw [List.length_map, sortB_length], .inl ⟨rfl, rfl⟩⟩, ⟨rfl, rfl, rfl, Nat.le_refl _, fun _ _ _ => rfl⟩⟩
  · have hg : g < w.heap.size := (Array.getElem?_eq_some_iff.1 h4).1
    refine (Stab_calls (some ⟨g, 0, none⟩) l.length cap (fun w' => ∃ n os, w' = sortWorldK encB 15 w g 0 n (sortB l).toArray os) w hl (Ins_calls g cap l w (holdsB h4 h8) hg hl)).mono ?_
    rintro e w' ⟨rfl, n, os, rfl⟩
    refine ⟨rfl, ⟨?_, .inr ⟨g, cap, _, rfl, h3, heapB _ h4, h5, h6, ?_, ?_⟩⟩, grownB _⟩
    · rw [flH_length]; unfold unB; rw [List.length_map, sortB_length]
    · simp [putCells, h7]
    · have := takeB (cur := cur) (l := sortB l) (by rw [sortB_length, h7]; exact Nat.mul_le_mul_right 15 h5)
      rw [sortB_length] at this
      exact this
end Go.Proofs.Ytbmfgcekglgliaa.G

namespace Go.Proofs.Ytbmfgcekglgliaa.G
open Go.RowKit Go.Proofs.YtbmfgcekglgliaaW.PrintWords Go.Proofs.YtbmfgcekglgliaaW.PrintLast Go.Proofs.YtbmfgcekglgliaaW.PrintMore Go.Proofs.YtbmfgcekglgliaaPl Go.Proofs.YtbmfgcekglgliaaEm Go.Proofs.YtbmfgcekglgliaaKr Go.Proofs.YtbmfgcekglgliaaRz Go.Proofs.Ytbmfgcekglgliaa.X
set_option linter.unusedVariables false
set_option linter.unusedSimpArgs false
theorem min16 (N x : Int) (h : x < (if 16 < N then 16 else N)) : x < 16 := by split at h <;> omega
def fitH (N me : Int) (out : List Hb) (h : Hd) : Bool := (h.kind == 1) && decide (0 ≤ h.frm) && decide (h.frm < (if 16 < N then 16 else N)) && (h.frm != me) && !(unB out).any (fun x => x.frm == h.frm)
theorem fitH_bd {N me : Int} {out : List Hb} {h : Hd} (g : fitH N me out h = true) : 0 ≤ h.frm ∧ h.frm < 16 := by
  unfold fitH at g
  simp only [Bool.and_eq_true, decide_eq_true_eq] at g
  exact ⟨g.1.1.1.2, min16 _ _ g.1.1.2⟩
def addT (N me : Int) (out : List Hb) (h : Hd) : List Hb := if g : fitH N me out h = true then out ++ [⟨h, (fitH_bd g).1, (fitH_bd g).2⟩] else out
def firsts (N me : Int) (l : List Hd) : List Hb := l.foldl (addT N me) []
theorem firsts_snoc (N me : Int) (l : List Hd) (h : Hd) : firsts N me (l ++ [h]) = addT N me (firsts N me l) h := by unfold firsts; rw [List.foldl_append]; rfl
theorem few_of : ∀ (m : Nat) (l : List Int), l.Nodup → (∀ x ∈ l, 0 ≤ x ∧ x < m) → l.length ≤ m
  | 0, l, _, hb => by
    cases l with
    | nil => simp
    | cons x l => have := hb x List.mem_cons_self; omega
  | m + 1, l, hd, hb => by
    have h1 := few_of m (l.filter (fun x => x != (m : Int))) (hd.filter _) (fun x hx => by
      obtain ⟨h2, h3⟩ := List.mem_filter.1 hx
      have := hb x h2
      have h4 : x ≠ (m : Int) := by simpa using h3
      omega)
    have h2 : l.countP (fun x => x == (m : Int)) ≤ 1 := by
      have := List.nodup_iff_count.1 hd (m : Int)
      exact this
    have h3 := List.length_eq_countP_add_countP (l := l) (fun x => x == (m : Int))
    have h4 : l.countP (fun x => decide ¬((x == (m : Int)) = true)) = (l.filter (fun x => x != (m : Int))).length := by
      rw [← List.countP_eq_length_filter]
      congr 1
      funext x
      rw [Bool.eq_iff_iff]; simp [bne]
    omega
theorem firsts_nodup (N me : Int) : ∀ (l : List Hd), ((unB (firsts N me l)).map (·.frm)).Nodup := by
  intro l
  suffices h : ∀ (l : List Hd) (out : List Hb), ((unB out).map (·.frm)).Nodup → ((unB (l.foldl (addT N me) out)).map (·.frm)).Nodup from h l [] (by simp [unB])
  intro l
  induction l with
  | nil => intro out h; exact h
  | cons x l ih =>
    intro out h
    refine ih _ ?_
    unfold addT
    split
    · rename_i g
      unfold unB
      rw [List.map_append, List.map_append, List.nodup_append]
      refine ⟨h, by simp, fun a ha b hb => ?_⟩
      simp at hb
      subst hb
      intro e
      subst e
      unfold fitH at g
      simp only [Bool.and_eq_true, Bool.not_eq_true'] at g
      have g2 := g.2
      rw [List.any_eq_false] at g2
      obtain ⟨y, hy, e⟩ := List.mem_map.1 ha
      exact g2 y hy (by simp [e])
    · exact h
theorem firsts_len (N me : Int) (l : List Hd) : (firsts N me l).length ≤ 16 := by
  have := few_of 16 ((unB (firsts N me l)).map (·.frm)) (firsts_nodup N me l) (fun x hx => by
    obtain ⟨y, hy, rfl⟩ := List.mem_map.1 hx
    obtain ⟨z, hz, rfl⟩ := List.mem_map.1 hy
    exact ⟨z.lo, by have := z.hi; omega⟩)
  unfold unB at this
  simpa using this
theorem Fr.grow {M A : Nat → Prop} {w W W1 : World} {bl : List (Nat × Obj)} {p : World → Prop} {r : Option Nat} (H : Fr M A w W bl p) (hg : W.grownBy W1 r) (hr : ∀ k, r = some k → w.heap.size ≤ k ∧ ¬ Of bl k) (hp : Tr (fun k => (A k ∨ Of bl k) ∨ r = some k) W p) : Fr M A w W1 bl p :=
  ⟨H.av, ⟨hg.os.trans H.chg.os, hg.tape.trans H.chg.tape, hg.output.trans H.chg.output, Nat.le_trans H.chg.size hg.size, fun k hk hn => (hg.block k (Nat.lt_of_lt_of_le hk H.chg.size) (fun e => by have := (hr k e.symm).1; omega)).trans (H.chg.block k hk hn)⟩,
    fun x hx => ⟨(hg.block x.1 (Go.Proofs.YtbmfgcekglgliaaEm.obj_lt (H.blk x hx).1) (fun e => (hr x.1 e.symm).2 ⟨x, hx, rfl⟩)).trans (H.blk x hx).1, (H.blk x hx).2⟩, H.nd,
    fun W' hW => hp W' (fun k hk hl => (hW k (fun q => hk (.inl q)) (Nat.lt_of_lt_of_le hl hg.size)).trans (hg.block k hl (fun e => hk (.inr e.symm))))⟩
theorem Tr.later {M A D : Nat → Prop} {w W : World} {p : World → Prop} (h0 : Tr A w p) (hc : Chg M w W) (hM : ∀ k, M k → A k) (hD : ∀ k, D k → k < w.heap.size → A k) : Tr D W p := fun W' hW =>
  h0 W' (fun k hk hl => (hW k (fun q => hk (hD k q hl)) (Nat.lt_of_lt_of_le hl hc.size)).trans (hc.block k hl (fun q => hk (hM k q))))
theorem own_ne {W : World} {b : Nat} {e t : TypeId} {sz n c g : Nat} {A : Option Addr} {xs : List Value} {cs : Array Value} (h : W.ownsRow b e sz (.slice A n c) n xs) (hg : W.heap[g]? = some (.cells cs t (0, 0))) (ht : t ≠ e) : ∀ ad, A = some ad → g ≠ ad.block := by
  intro ad ha he
  rcases h.2 with ⟨h2, _⟩ | ⟨g2, cap, cur, h2, h3, h4, h5⟩
  · injection h2 with e1
    rw [ha] at e1
    cases e1
  · injection h2 with e1
    rw [ha] at e1
    cases e1
    have he : g = g2 := he
    subst he
    rw [hg] at h4
    injection h4 with h4
    injection h4 with _ h4
    exact ht h4
theorem Fr.appended {M A : Nat → Prop} {w W W1 : World} {bl : List (Nat × Obj)} {p q : World → Prop} {e : TypeId} {sz n c : Nat} {Ao : Option Addr} {xs : List Value} (H : Fr M A w W bl q) (hM : ∀ k, M k → A k) (hp0 : Tr A w p) (hO : W.ownsRow w.heap.size e sz (.slice Ao n c) n xs) (hne : ∀ x, x ∈ bl → ∃ cs t, x.2 = .cells cs t (0, 0) ∧ t ≠ e) (hg : W.grownBy W1 (Value.slice Ao n c).ownBlock) : Fr M A w W1 bl p := by
  have hb : ∀ k, (Value.slice Ao n c).ownBlock = some k → ∃ ad, Ao = some ad ∧ ad.block = k := fun k hk => by
    cases Ao with
    | none => cases hk
    | some ad => exact ⟨ad, rfl, by injection hk⟩
  have hr : ∀ k, (Value.slice Ao n c).ownBlock = some k → w.heap.size ≤ k ∧ ¬ Of bl k := fun k hk => by
    obtain ⟨ad, e1, rfl⟩ := hb k hk
    refine ⟨(own_lo hO ad e1).1, fun ⟨x, hx, e2⟩ => ?_⟩
    obtain ⟨cs, t, e3, e4⟩ := hne x hx
    have := (H.blk x hx).1
    rw [e3] at this
    exact own_ne hO this e4 ad e1 e2
  have hold : ∀ k, Of bl k → k < w.heap.size → A k := fun k ⟨x, hx, e1⟩ hk => by
    rcases (H.blk x hx).2 with q | q
    · omega
    · exact hM k (e1 ▸ q)
  have H1 : Fr M A w W bl p := ⟨H.av, H.chg, H.blk, H.nd, Tr.later hp0 H.chg hM (fun k hk hl => hk.elim id (fun h => hold k h hl))⟩
  refine Fr.grow H1 hg hr (Tr.later hp0 H.chg hM (fun k hk hl => ?_))
  rcases hk with (hk | hk) | hk
  · exact hk
  · exact hold k hk hl
  · have := (hr k hk).1
    omega
theorem infoH : (Try.prog.info? 45).map (fun i => (i.zero, i.size, i.bytes)) = some (some (.agg #[.int .i64 0, .int .i64 0, .int .i64 0, .int .i64 0, .int .i64 0, .int .i64 0, .bool false, .bool false, .int .i64 0, .int .i64 0, .int .i64 0, .int .i64 0, .int .i64 0, .slice none 0 0, .int .i64 0]), 15, 128) := by kernel_rfl
theorem new_cells {W : World} {x : Nat} {t : TypeId} {l : List Value} (h : W.heap[x]? = some (.cells l.toArray t (0, 0))) : ∀ j u, l[j]? = some u → W.cell? ((⟨x, 0, none⟩ : Addr).add j) = some u := by
  intro j u hu
  rw [show ((⟨x, 0, none⟩ : Addr).add j) = ⟨x, j, none⟩ by
    unfold Addr.add
    split
    · rename_i h0; rw [h0]
    · simp, blk_cell h]
  simpa using hu
theorem fit_cases2 (N me : Int) (out : List Hb) (h : Hd) (f : Bool) (hf : fitH N me out h = f) :
    (f = false ∧ (h.kind == 1) = false) ∨ (f = false ∧ (h.kind == 1) = true ∧ decide (0 ≤ h.frm) = false) ∨ (f = false ∧ (h.kind == 1) = true ∧ decide (0 ≤ h.frm) = true ∧ decide (h.frm < (if 16 < N then 16 else N)) = false) ∨
    (f = false ∧ (h.kind == 1) = true ∧ decide (0 ≤ h.frm) = true ∧ decide (h.frm < (if 16 < N then 16 else N)) = true ∧ (h.frm != me) = false) ∨ (f = false ∧ (h.kind == 1) = true ∧ decide (0 ≤ h.frm) = true ∧ decide (h.frm < (if 16 < N then 16 else N)) = true ∧ (h.frm != me) = true ∧ (unB out).any (fun x => x.frm == h.frm) = true) ∨
    (f = true ∧ (h.kind == 1) = true ∧ decide (0 ≤ h.frm) = true ∧ decide (h.frm < (if 16 < N then 16 else N)) = true ∧ (h.frm != me) = true ∧ (unB out).any (fun x => x.frm == h.frm) = false) := by
  unfold fitH at hf
  subst hf
  generalize (h.kind == 1) = a
  generalize decide (0 ≤ h.frm) = b
  generalize decide (h.frm < (if 16 < N then 16 else N)) = c
  generalize (h.frm != me) = d
  generalize (unB out).any (fun x => x.frm == h.frm) = e
  cases a <;> cases b <;> cases c <;> cases d <;> cases e <;> simp
def told (N me : Int) (l : List Hd) : List Hb := sortB (firsts N me l)
set_option maxRecDepth 100000 in
set_option maxHeartbeats 16000000 in
theorem Told_calls (p : Par) (me : Int) (A : Option Addr) (c : Nat) (l : List Hd) (w : World) (hr : Tr (fun _ => False) w (fun W => RowH W A l)) (hl : l.length ≤ 4096) :
    Calls Try.prog 19 #[.agg #[.int .i64 p.N, .int .i64 p.F, .int .i64 p.D, .int .i64 p.Be, .int .i64 p.Rho, .int .i64 p.De, .int .i64 p.Ji, .int .i64 p.Eps, .int .i64 p.Mu, .int .i64 p.Ho, .int .i64 p.Pu, .int .i64 p.Se], .int .i64 me, .slice A l.length c] w fun e w' => ∃ v, e = .returned v ∧ w'.ownsRow w.heap.size 45 15 v (told p.N me l).length (flH (unB (told p.N me l))) ∧ Below w.heap.size w w' := by
  have H := Fr.start0 (M := fun _ => False) (A := fun _ => False) (w := w) (p := fun W => RowH W A l) (fun _ h => h.elim) hr
  have HR0 := Lib.hid hr
  obtain ⟨n, hn⟩ : ∃ n, l.length = n := ⟨_, rfl⟩
  have HN := Lib.hid hn
  rw [hn] at hl ⊢
  obtain ⟨i0, hi0, hz0, hz1, hz2⟩ := info_parts infoH
  obtain ⟨m, hm⟩ : ∃ m, (if 16 < p.N then (16 : Int) else p.N) = m := ⟨_, rfl⟩
  have hmin : ∀ ats ty W, (Builtin.min_ ats ty #[.int .i64 p.N, .int .i64 16]).run Try.prog W = .ok (.int .i64 m) W := fun ats ty W => by rw [← hm]; rfl
  have HMI := Lib.hid hm
  clear hm
  clear hr hn
  go_enter Try.func19, Try.ntmps19
  go_wp2_with (first
    | ((with_reducible refine gate_dst (N := 3) rfl ?_); refine fr_box H rfl rfl rfl ?_; intro g3 w3 H1; clear H; have H := H1; clear H1)
    | ((with_reducible refine gate_dst (N := 17) rfl ?_); refine fr_sub H (n := 15) rfl rfl rfl (by repeat (first | exact At.head | apply At.tail)) Try.underlying45 rfl (by kernel_rfl) (by simp only [List.toList_toArray, List.drop_succ_cons, List.drop_zero, List.take_succ_cons, List.take_zero]; rfl) (by rfl) ?_)
    | ((with_reducible refine gate_dst (N := 9) rfl ?_); refine fr_new H (N := 9) rfl rfl (cs := #[.int .i64 0, .int .i64 0, .int .i64 0, .int .i64 0, .int .i64 0, .int .i64 0, .bool false, .bool false, .int .i64 0, .int .i64 0, .int .i64 0, .int .i64 0, .int .i64 0, .slice none 0 0, .int .i64 0]) (t := 45) ?hr ?_; (case hr => first | (go_simp; done) | (go_simp; rfl)); intro g9 w9 H1; clear H; have H := H1; clear H1)
    | ((with_reducible refine gate_store (t := 45) (p := 9) rfl ?_); refine fr_put H rfl rfl rfl rfl rfl (by repeat (first | exact At.head | apply At.tail)) (by rfl) (by kernel_rfl) (by simp [Value.oneCell']) ?_; intro w9_ H1; clear H; have H := H1; clear H1)
    | ((with_reducible refine gate_dst (N := 19) rfl ?_); refine fr_sub H (n := 14) rfl rfl rfl (by repeat (first | exact At.head | apply At.tail)) Try.underlying43 rfl (by kernel_rfl) (by simp only [List.toList_toArray, List.drop_succ_cons, List.drop_zero, List.take_succ_cons, List.take_zero]; rfl) (by rfl) ?_)
    | ((with_reducible refine gate_dst (N := 10) rfl ?_); refine fr_new H (N := 10) rfl rfl (cs := #[.int .i64 0, .int .i64 0, .int .i64 0, .int .i64 0, .int .i64 0, .int .i64 0, .bool false, .bool false, .int .i64 0, .int .i64 0, .int .i64 0, .int .i64 0, .int .i64 0, .slice none 0 0]) (t := 43) ?hr ?_; (case hr => first | (go_simp; done) | (go_simp; rfl)); intro g10 w10 H1; clear H; have H := H1; clear H1)
    | ((with_reducible refine gate_store (t := 43) (p := 10) rfl ?_); refine fr_put H rfl rfl rfl rfl rfl (by repeat (first | exact At.head | apply At.tail)) (by rfl) (by kernel_rfl) (by simp [Value.oneCell']) ?_; intro w10_ H1; clear H; have H := H1; clear H1)
    | ((with_reducible refine gate_dst (N := 24) rfl ?_); refine fr_get H rfl rfl rfl (by repeat (first | exact At.head | apply At.tail)) Try.underlying3 rfl (by simp only [List.getElem?_toArray, List.getElem?_cons_succ, List.getElem?_cons_zero]; rfl) ?_)
    | ((with_reducible refine gate_dst (N := 28) rfl ?_); (try (refine gate_guard (by rfl) ?_; dsimp only)); refine fr_get H rfl rfl rfl (by repeat (first | exact At.head | apply At.tail)) Try.underlying3 rfl (by simp only [List.getElem?_toArray, List.getElem?_cons_succ, List.getElem?_cons_zero]; rfl) ?_)
    | ((with_reducible refine gate_dst (N := 33) rfl ?_); (try (refine gate_guard (by rfl) ?_; dsimp only)); refine fr_get H rfl rfl rfl (by repeat (first | exact At.head | apply At.tail)) Try.underlying3 rfl (by simp only [List.getElem?_toArray, List.getElem?_cons_succ, List.getElem?_cons_zero]; rfl) ?_)
    | ((with_reducible refine gate_dst (N := 35) rfl ?_); (try (refine gate_guard (by rfl) ?_; dsimp only)); refine fr_get H rfl rfl rfl (by repeat (first | exact At.head | apply At.tail)) Try.underlying3 rfl (by simp only [List.getElem?_toArray, List.getElem?_cons_succ, List.getElem?_cons_zero]; rfl) ?_)
    | ((with_reducible refine gate_dst (N := 41) rfl ?_); (try (refine gate_guard (by rfl) ?_; dsimp only)); refine fr_get H rfl rfl rfl (by repeat (first | exact At.head | apply At.tail)) Try.underlying3 rfl (by simp only [List.getElem?_toArray, List.getElem?_cons_succ, List.getElem?_cons_zero]; rfl) ?_)
    | ((with_reducible refine gate_dst (N := 50) rfl ?_); refine fr_sub H (n := 15) rfl rfl rfl (by repeat (first | exact At.head | apply At.tail)) Try.underlying45 rfl (by kernel_rfl) (by simp only [List.toList_toArray, List.drop_succ_cons, List.drop_zero, List.take_succ_cons, List.take_zero]; rfl) (by rfl) ?_)
    | ((with_reducible refine gate_dst (N := 51) rfl ?_); refine fr_rowv H (N := 51) rfl rfl (fun K hK => by go_simp; exact hK.out) ?_; intro x51 w51 H1; clear H; have H := H1; clear H1)
    | fail)
  go_loopw [7, 14] (fun v7 v14 wr => ∃ (k : Nat) (out : List Hb) (Ao : Option Addr) (on co : Nat), k ≤ n ∧ v14 = .int .i64 k ∧ v7 = .slice Ao on co ∧ on ≤ co ∧ on ≤ 16 ∧ Hid (out.length = on) ∧ Hid (firsts p.N me (l.take k) = out) ∧ Hid (wr.ownsRow w.heap.size 45 15 (.slice Ao on co) on (flH (unB out))) ∧ Fr (fun _ => False) (fun _ => False) w wr [(g3, .cells #[.int .i64 p.N, .int .i64 p.F, .int .i64 p.D, .int .i64 p.Be, .int .i64 p.Rho, .int .i64 p.De, .int .i64 p.Ji, .int .i64 p.Eps, .int .i64 p.Mu, .int .i64 p.Ho, .int .i64 p.Pu, .int .i64 p.Se] 23 (0, 0))] (fun W => RowH W A l)) (fun _ v14 _ => n - (intOf v14).toNat)
  case atStart => exact ⟨0, [], none, 0, 0, by omega, rfl, rfl, by omega, by omega, Lib.hid rfl, Lib.hid rfl, Lib.hid (World.ownsRow_nil _ _ _ _), H⟩
  case round =>
    clear H
    obtain ⟨k, out, Ao, on, co, hk, rfl, rfl, hco, hk16, HON, HF, HO, H⟩ := hrel
    by_cases hlt : k < n
    · have hkl : k < l.length := by rw [HN.out]; exact hlt
      have hk1 : (k : Int) < (n : Int) := by omega
      have hs1 : -9223372036854775808 ≤ (k : Int) + 1 := by omega
      have hs2 : (k : Int) + 1 ≤ 9223372036854775807 := by omega
      obtain ⟨ad, e, hx⟩ := H.now k hkl
      cases e
      obtain ⟨x, hxe⟩ : ∃ x, l[k] = x := ⟨_, rfl⟩
      rw [hxe] at hx
      have HT : Hid (firsts p.N me (l.take (k + 1)) = addT p.N me out x) := Lib.hid (by rw [List.take_succ_eq_append_getElem hkl, hxe, firsts_snoc, HF.out])
      obtain ⟨f, hf⟩ : ∃ f, fitH p.N me out x = f := ⟨_, rfl⟩
      have HFI := Lib.hid hf
      have hcs := fit_cases2 p.N me out x f hf
      obtain ⟨b, hb⟩ : ∃ b, (unB out).any (fun y => y.frm == x.frm) = b := ⟨_, rfl⟩
      have HCN : Hid (∀ W gm, W.cell? ⟨gm, 1, none⟩ = some (.int .i64 x.frm) → RowH W Ao (unB out) → Calls Try.prog 38 #[.slice Ao on co, .func (.func 39) #[] #[.pointer (some ⟨gm, 0, none⟩)]] W fun e w' => e = .returned (.bool b) ∧ Below W.heap.size W w') := Lib.hid (fun W gm h h2 => by
        have := ContainsH_calls Ao co (unB out) gm x.frm W h2 (by unfold unB; rw [List.length_map, HON.out]; omega) h
        rw [hb] at this
        unfold unB at this
        rw [List.length_map, HON.out] at this
        exact this)
      rw [hb, HMI.out] at hcs
      obtain ⟨kind, frm, lo, hi, held, hops, good, ref, slo, shi, pulse, st, sn, Ax, nx, cx, age⟩ := x
      have HC : Hid (∀ j u, [Value.int .i64 kind, .int .i64 frm, .int .i64 lo, .int .i64 hi, .int .i64 held, .int .i64 hops, .bool good, .bool ref, .int .i64 slo, .int .i64 shi, .int .i64 pulse, .int .i64 st, .int .i64 sn, .slice Ax nx cx, .int .i64 age][j]? = some u → wr.cell? ((ad.add (k * 15)).add j) = some u) := Lib.hid hx
      have H1 := H.and (Tr_own HO.out (Nat.le_refl _) (fun k1 a1 h1 h2 => by
        rcases h1 with h1 | ⟨y, hy, e⟩
        · exact h1.elim
        · rcases List.mem_singleton.1 hy with rfl
          rw [← e]
          exact own_ne HO.out (H.of At.head) (by decide) a1 h2))
      clear H
      have H := H1
      clear H1 HO
      dsimp only at hcs HCN
      clear hx hxe hf hb
      rcases hcs with ⟨rfl, d1⟩ | ⟨rfl, d1, d2⟩ | ⟨rfl, d1, d2, d3⟩ | ⟨rfl, d1, d2, d3, d4⟩ | ⟨rfl, d1, d2, d3, d4, rfl⟩ | ⟨rfl, d1, d2, d3, d4, rfl⟩
      all_goals
        go_wp2_with (first
          | ((with_reducible refine gate_dst (N := 17) rfl ?_); refine load_cells rfl rfl (ad := ad.add (k * 15)) (cs := [.int .i64 kind, .int .i64 frm, .int .i64 lo, .int .i64 hi, .int .i64 held, .int .i64 hops, .bool good, .bool ref, .int .i64 slo, .int .i64 shi, .int .i64 pulse, .int .i64 st, .int .i64 sn, .slice Ax nx cx, .int .i64 age]) ?hx Try.underlying45 rfl (by kernel_rfl) HC.out ?_; (case hx => first | rfl | (go_simp; done) | (go_simp; rfl)))
          | ((with_reducible refine gate_dst (N := 3) rfl ?_); refine fr_box H rfl rfl rfl ?_; intro g3 w3 H1; clear H; have H := H1; clear H1)
          | ((with_reducible refine gate_dst (N := 17) rfl ?_); refine fr_sub H (n := 15) rfl rfl rfl (by repeat (first | exact At.head | apply At.tail)) Try.underlying45 rfl (by kernel_rfl) (by simp only [List.toList_toArray, List.drop_succ_cons, List.drop_zero, List.take_succ_cons, List.take_zero]; rfl) (by rfl) ?_)
          | ((with_reducible refine gate_dst (N := 9) rfl ?_); refine fr_new H (N := 9) rfl rfl (cs := #[.int .i64 0, .int .i64 0, .int .i64 0, .int .i64 0, .int .i64 0, .int .i64 0, .bool false, .bool false, .int .i64 0, .int .i64 0, .int .i64 0, .int .i64 0, .int .i64 0, .slice none 0 0, .int .i64 0]) (t := 45) ?hr ?_; (case hr => first | (go_simp; done) | (go_simp; rfl)); intro g9 w9 H1; clear H; have H := H1; clear H1)
          | ((with_reducible refine gate_store (t := 45) (p := 9) rfl ?_); refine fr_put H rfl rfl rfl rfl rfl (by repeat (first | exact At.head | apply At.tail)) (by rfl) (by kernel_rfl) (by simp [Value.oneCell']) ?_; intro w9_ H1; clear H; have H := H1; clear H1)
          | ((with_reducible refine gate_dst (N := 19) rfl ?_); refine fr_sub H (n := 14) rfl rfl rfl (by repeat (first | exact At.head | apply At.tail)) Try.underlying43 rfl (by kernel_rfl) (by simp only [List.toList_toArray, List.drop_succ_cons, List.drop_zero, List.take_succ_cons, List.take_zero]; rfl) (by rfl) ?_)
          | ((with_reducible refine gate_dst (N := 10) rfl ?_); refine fr_new H (N := 10) rfl rfl (cs := #[.int .i64 0, .int .i64 0, .int .i64 0, .int .i64 0, .int .i64 0, .int .i64 0, .bool false, .bool false, .int .i64 0, .int .i64 0, .int .i64 0, .int .i64 0, .int .i64 0, .slice none 0 0]) (t := 43) ?hr ?_; (case hr => first | (go_simp; done) | (go_simp; rfl)); intro g10 w10 H1; clear H; have H := H1; clear H1)
          | ((with_reducible refine gate_store (t := 43) (p := 10) rfl ?_); refine fr_put H rfl rfl rfl rfl rfl (by repeat (first | exact At.head | apply At.tail)) (by rfl) (by kernel_rfl) (by simp [Value.oneCell']) ?_; intro w10_ H1; clear H; have H := H1; clear H1)
          | ((with_reducible refine gate_dst (N := 24) rfl ?_); refine fr_get H rfl rfl rfl (by repeat (first | exact At.head | apply At.tail)) Try.underlying3 rfl (by simp only [List.getElem?_toArray, List.getElem?_cons_succ, List.getElem?_cons_zero]; rfl) ?_)
          | ((with_reducible refine gate_dst (N := 28) rfl ?_); (try (refine gate_guard (by rfl) ?_; dsimp only)); refine fr_get H rfl rfl rfl (by repeat (first | exact At.head | apply At.tail)) Try.underlying3 rfl (by simp only [List.getElem?_toArray, List.getElem?_cons_succ, List.getElem?_cons_zero]; rfl) ?_)
          | ((with_reducible refine gate_dst (N := 33) rfl ?_); (try (refine gate_guard (by rfl) ?_; dsimp only)); refine fr_get H rfl rfl rfl (by repeat (first | exact At.head | apply At.tail)) Try.underlying3 rfl (by simp only [List.getElem?_toArray, List.getElem?_cons_succ, List.getElem?_cons_zero]; rfl) ?_)
          | ((with_reducible refine gate_dst (N := 35) rfl ?_); (try (refine gate_guard (by rfl) ?_; dsimp only)); refine fr_get H rfl rfl rfl (by repeat (first | exact At.head | apply At.tail)) Try.underlying3 rfl (by simp only [List.getElem?_toArray, List.getElem?_cons_succ, List.getElem?_cons_zero]; rfl) ?_)
          | ((with_reducible refine gate_dst (N := 41) rfl ?_); (try (refine gate_guard (by rfl) ?_; dsimp only)); refine fr_get H rfl rfl rfl (by repeat (first | exact At.head | apply At.tail)) Try.underlying3 rfl (by simp only [List.getElem?_toArray, List.getElem?_cons_succ, List.getElem?_cons_zero]; rfl) ?_)
          | ((with_reducible refine gate_dst (N := 50) rfl ?_); refine fr_sub H (n := 15) rfl rfl rfl (by repeat (first | exact At.head | apply At.tail)) Try.underlying45 rfl (by kernel_rfl) (by simp only [List.toList_toArray, List.drop_succ_cons, List.drop_zero, List.take_succ_cons, List.take_zero]; rfl) (by rfl) ?_)
          | ((with_reducible refine gate_dst (N := 51) rfl ?_); refine fr_rowv H (N := 51) rfl rfl (fun K hK => by go_simp; exact hK.out) ?_; intro x51 w51 H1; clear H; have H := H1; clear H1)
          | (go_at_call 38; (with_reducible refine (HCN.out _ _ (blk_cell (H.of At.head) 1) (rowH_own H.now.2)).mono ?_); rintro e w' ⟨rfl, hb⟩; have H1 := H.call hb; clear hb; clear H; have H := H1; clear H1)
          | (at_builtin; refine wpList_append_own_at _ rfl _ _ 32 rfl w.heap.size 45 i0 _ 15 128 Try.underlying32 hi0 hz0 hz1 hz2 rfl (by decide) (.slice Ao on co) on (flH (unB out)) rfl H.now.2 ⟨x51, 0, none⟩ 1 1 [.int .i64 kind, .int .i64 frm, .int .i64 lo, .int .i64 hi, .int .i64 held, .int .i64 hops, .bool good, .bool ref, .int .i64 slo, .int .i64 shi, .int .i64 pulse, .int .i64 st, .int .i64 sn, .slice Ax nx cx, .int .i64 age] rfl rfl ?hn ?h1 (by unfold maxLen; omega) (by omega) H.chg.size ?_; (case hn => exact new_cells (H.of At.head)); (case h1 => exact encH_one ⟨kind, frm, lo, hi, held, hops, good, ref, slo, shi, pulse, st, sn, Ax, nx, cx, age⟩); intro v2 w2 hown hgrow hnil hat)
          | fail)
      any_goals
        refine ⟨⟨k + 1, out, Ao, on, co, by omega, rfl, rfl, hco, hk16, HON, Lib.hid ?_, Lib.hid H.now.2, (H.drop.drop).imp (fun _ h => h.1)⟩, by simp [intOf]; omega⟩
        rw [HT.out]
        unfold addT
        rw [dif_neg (by rw [HFI.out]; simp)]
      have HD := H.drop.drop.drop
      have HA := Fr.appended HD (fun k h => h) HR0.out H.now.2 (fun y hy => by rcases List.mem_singleton.1 hy with rfl; exact ⟨_, _, rfl, by decide⟩) hgrow
      rcases hown.2 with ⟨_, h3⟩ | ⟨g4, cap, cur, rfl, h3, h4, h5, h6, h7, h8⟩
      · omega
      · have hf1 : firsts p.N me (l.take (k + 1)) = out ++ [⟨⟨kind, frm, lo, hi, held, hops, good, ref, slo, shi, pulse, st, sn, Ax, nx, cx, age⟩, (fitH_bd HFI.out).1, (fitH_bd HFI.out).2⟩] := by
          rw [HT.out]
          unfold addT
          rw [dif_pos HFI.out]
        refine ⟨⟨k + 1, _, some ⟨g4, 0, none⟩, on + 1, cap, by omega, rfl, rfl, h5, ?_, Lib.hid ?_, Lib.hid hf1, Lib.hid ?_, HA⟩, by simp [intOf]; omega⟩
        · have := firsts_len p.N me (l.take (k + 1))
          rw [hf1, List.length_append, HON.out] at this
          simpa using this
        · rw [List.length_append, HON.out]; rfl
        · have e1 : unB (out ++ [⟨⟨kind, frm, lo, hi, held, hops, good, ref, slo, shi, pulse, st, sn, Ax, nx, cx, age⟩, (fitH_bd HFI.out).1, (fitH_bd HFI.out).2⟩]) = unB out ++ [⟨kind, frm, lo, hi, held, hops, good, ref, slo, shi, pulse, st, sn, Ax, nx, cx, age⟩] := by unfold unB; rw [List.map_append]; rfl
          rw [e1, flH_snoc]
          exact hown
    · obtain rfl : k = n := by omega
      have HFA : Hid (firsts p.N me l = out) := Lib.hid (by rw [← HF.out, List.take_of_length_le (by rw [HN.out]; exact Nat.le_refl _)])
      have HSO : Hid (Calls Try.prog 40 #[.slice Ao on co, .func (.func 41) #[] #[]] wr fun e w' => e = .returned (.tuple #[]) ∧ w'.ownsRow w.heap.size 45 15 (.slice Ao on co) on (flH (unB (sortB out))) ∧ wr.grownBy w' (Value.slice Ao on co).ownBlock) := Lib.hid (by
        have := SortH_calls w.heap.size (.slice Ao on co) out wr (by rw [HON.out]; exact HO.out) (by rw [HON.out]; omega)
        rw [HON.out] at this
        exact this)
      go_wp2_with (first
        | (go_at_call 40; (with_reducible refine HSO.out.mono ?_); rintro e w' ⟨rfl, hO2, hgrow⟩; have HA := Fr.appended H (fun k h => h) HR0.out HO.out (fun y hy => by rcases List.mem_singleton.1 hy with rfl; exact ⟨_, _, rfl, by decide⟩) hgrow; have HO2 := Lib.hid hO2; clear hO2 hgrow H)
        | fail)
      go_ret
      refine ⟨_, rfl, ?_, HA.below⟩
      unfold told
      rw [HFA.out, sortB_length, HON.out]
      exact HO2.out
end Go.Proofs.Ytbmfgcekglgliaa.G

namespace Go.Proofs.Ytbmfgcekglgliaa.G
open Go.RowKit Go.Proofs.YtbmfgcekglgliaaW.PrintWords Go.Proofs.YtbmfgcekglgliaaW.PrintLast Go.Proofs.YtbmfgcekglgliaaW.PrintMore Go.Proofs.YtbmfgcekglgliaaPl Go.Proofs.YtbmfgcekglgliaaEm Go.Proofs.YtbmfgcekglgliaaKr Go.Proofs.YtbmfgcekglgliaaRz Go.Proofs.Ytbmfgcekglgliaa.X
set_option linter.unusedVariables false
set_option linter.unusedSimpArgs false
def pulseS (p : Par) (s : St) : Int := if syncE (ofP p s.set s.good s.held s.hops) = 0 then numP p s.time else 0
set_option maxRecDepth 100000 in
set_option maxHeartbeats 8000000 in
theorem Say_calls (p : Par) (s : St) (A : Option Addr) (c g : Nat) (me kind : Int) (from_ : Int) (rd : Bool) (slo shi : Int) (w : World) (hg : w.heap[g]? = some (.cells #[.int .i64 p.N, .int .i64 p.F, .int .i64 p.D, .int .i64 p.Be, .int .i64 p.Rho, .int .i64 p.De, .int .i64 p.Ji, .int .i64 p.Eps, .int .i64 p.Mu, .int .i64 p.Ho, .int .i64 p.Pu, .int .i64 p.Se, .int .i64 s.lo, .int .i64 s.hi, .int .i64 s.time, .bool s.set, .int .i64 s.held, .int .i64 s.hops, .bool s.good, .slice A s.tab.length c, .int .i64 s.st, .int .i64 s.sn, .int .i64 s.life, .int .i64 me] 52 (0, 0))) (hr : Tr (fun k => k = g) w (fun W => Kd.C k82 W A s.tab.length s.tab)) (hl : s.tab.length ≤ 4096) :
    Calls Try.prog 25 #[.pointer (some ⟨g, 0, none⟩), .int .i64 kind, .int .i64 from_, .bool rd, .agg #[.int .i64 slo, .int .i64 shi]] w fun e w' => ∃ A' c', e = .returned (.agg #[.int .i64 kind, .int .i64 from_, .int .i64 s.lo, .int .i64 s.hi, .int .i64 s.held, .int .i64 s.hops, .bool s.good, .bool rd, .int .i64 slo, .int .i64 shi, .int .i64 (pulseS p s), .int .i64 (tickP s.st s.sn s.time).1, .int .i64 (tickP s.st s.sn s.time).2, .slice A' s.tab.length c']) ∧ w'.heap[g]? = some (.cells #[.int .i64 p.N, .int .i64 p.F, .int .i64 p.D, .int .i64 p.Be, .int .i64 p.Rho, .int .i64 p.De, .int .i64 p.Ji, .int .i64 p.Eps, .int .i64 p.Mu, .int .i64 p.Ho, .int .i64 p.Pu, .int .i64 p.Se, .int .i64 s.lo, .int .i64 s.hi, .int .i64 s.time, .bool s.set, .int .i64 s.held, .int .i64 s.hops, .bool s.good, .slice A s.tab.length c, .int .i64 (tickP s.st s.sn s.time).1, .int .i64 (tickP s.st s.sn s.time).2, .int .i64 s.life, .int .i64 me] 52 (0, 0)) ∧ w'.ownsRow w.heap.size 82 2 (.slice A' s.tab.length c') s.tab.length (flL s.tab) ∧ Chg (fun k => k = g) w w' := by
  have H := Fr.start1 (M := fun k => k = g) (A := fun _ => False) (p := fun W => Kd.C k82 W A s.tab.length s.tab) (fun _ h => h.elim) hg rfl (Tr.less hr (fun k _ q => q.resolve_left id))
  have KP : Hid (∀ W, W.heap[g]? = some (.cells #[.int .i64 p.N, .int .i64 p.F, .int .i64 p.D, .int .i64 p.Be, .int .i64 p.Rho, .int .i64 p.De, .int .i64 p.Ji, .int .i64 p.Eps, .int .i64 p.Mu, .int .i64 p.Ho, .int .i64 p.Pu, .int .i64 p.Se, .int .i64 s.lo, .int .i64 s.hi, .int .i64 s.time, .bool s.set, .int .i64 s.held, .int .i64 s.hops, .bool s.good, .slice A s.tab.length c, .int .i64 s.st, .int .i64 s.sn, .int .i64 s.life, .int .i64 me] 52 (0, 0)) → Calls Try.prog 52 #[.pointer (some ⟨g, 0, none⟩)] W fun e w' => e = .returned (.tuple #[.int .i64 (pulseS p s), .int .i64 (syncE (ofP p s.set s.good s.held s.hops))]) ∧ Below W.heap.size W w') := Lib.hid (fun W h => Pulse_calls p s A c g me W h)
  have KS := Lib.hid (fun W h => Stamp_calls p s A c g me W h)
  have HCL : Hid (∀ W, Kd.C k82 W A s.tab.length s.tab → Calls Try.prog 33 #[.slice A s.tab.length c] W fun e w' => ∃ u, e = .returned u ∧ w'.ownsRow W.heap.size 82 2 u s.tab.length (flL s.tab) ∧ Below W.heap.size W w') := Lib.hid (fun W h => Clone_calls A c s.tab W h hl)
  obtain ⟨pu, hpu⟩ : ∃ x, pulseS p s = x := ⟨_, rfl⟩
  obtain ⟨y, hy⟩ : ∃ x, syncE (ofP p s.set s.good s.held s.hops) = x := ⟨_, rfl⟩
  obtain ⟨⟨t1, t2⟩, ht⟩ : ∃ x, tickP s.st s.sn s.time = x := ⟨_, rfl⟩
  obtain ⟨lo, hi, time, set, held, hops, good, tab, st, sn, life⟩ := s
  obtain ⟨n, hn⟩ : ∃ x, tab.length = x := ⟨_, rfl⟩
  have HN := Lib.hid hn
  rw [hpu, hy] at KP
  rw [ht] at KS
  rw [hpu, ht]
  dsimp only at H KP KS HCL ⊢
  rw [hn] at H KP KS HCL ⊢
  clear hg hr hl hpu hy ht hn
  go_enter Try.func25, Try.ntmps25
  go_wp2_with (first
    | (go_at_call 52; (with_reducible refine (KP.out _ (H.of (by repeat (first | exact At.head | apply At.tail)))).mono ?_); rintro e w' ⟨rfl, hb⟩; have H1 := H.call hb; clear hb; clear H; have H := H1; clear H1)
    | (go_at_call 53; (with_reducible refine (KS.out _ (H.of (by repeat (first | exact At.head | apply At.tail)))).mono ?_); rintro e w' ⟨rfl, hb, hc⟩; have H1 := H.turn (by repeat (first | exact At.head | apply At.tail)) hb hc; clear hb hc; clear H; have H := H1; clear H1)
    | ((with_reducible refine gate_dst (N := 9) rfl ?_); refine fr_box H rfl rfl rfl ?_; intro g9 w9 H1; clear H; have H := H1; clear H1)
    | ((with_reducible refine gate_dst (N := 10) rfl ?_); refine fr_new H (N := 10) rfl rfl (cs := #[.int .i64 0, .int .i64 0, .int .i64 0, .int .i64 0, .int .i64 0, .int .i64 0, .bool false, .bool false, .int .i64 0, .int .i64 0, .int .i64 0, .int .i64 0, .int .i64 0, .slice none 0 0]) (t := 43) ?hr ?_; (case hr => first | (go_simp; done) | (go_simp; rfl)); intro g10 w10 H1; clear H; have H := H1; clear H1)
    | ((with_reducible refine gate_store (t := 43) (p := 10) rfl ?_); refine fr_put H rfl rfl rfl rfl rfl (by repeat (first | exact At.head | apply At.tail)) (by rfl) (by kernel_rfl) (by simp [Value.oneCell']) ?_; intro w10_ H1; clear H; have H := H1; clear H1)
    | ((with_reducible refine gate_dst (N := 13) rfl ?_); refine fr_new H (N := 13) rfl rfl (cs := #[.int .i64 0, .int .i64 0]) (t := 28) ?hr ?_; (case hr => first | (go_simp; done) | (go_simp; rfl)); intro g13 w13 H1; clear H; have H := H1; clear H1)
    | ((with_reducible refine gate_store (t := 28) (p := 13) rfl ?_); refine fr_put H rfl rfl rfl rfl rfl (by repeat (first | exact At.head | apply At.tail)) (by rfl) (by kernel_rfl) (by simp [Value.oneCell']) ?_; intro w13_ H1; clear H; have H := H1; clear H1)
    | ((with_reducible refine gate_dst (N := 32) rfl ?_); refine fr_sub H (n := 11) rfl rfl rfl (by repeat (first | exact At.head | apply At.tail)) Try.underlying30 rfl (by kernel_rfl) (by simp only [List.toList_toArray, List.drop_succ_cons, List.drop_zero, List.take_succ_cons, List.take_zero]; rfl) (by rfl) ?_)
    | ((with_reducible refine gate_dst (N := 15) rfl ?_); refine fr_new H (N := 15) rfl rfl (cs := #[.int .i64 0, .int .i64 0, .int .i64 0, .bool false, .int .i64 0, .int .i64 0, .bool false, .slice none 0 0, .int .i64 0, .int .i64 0, .int .i64 0]) (t := 30) ?hr ?_; (case hr => first | (go_simp; done) | (go_simp; rfl)); intro g15 w15 H1; clear H; have H := H1; clear H1)
    | ((with_reducible refine gate_store (t := 30) (p := 15) rfl ?_); refine fr_put H rfl rfl rfl rfl rfl (by repeat (first | exact At.head | apply At.tail)) (by rfl) (by kernel_rfl) (by simp [Value.oneCell']) ?_; intro w15_ H1; clear H; have H := H1; clear H1)
    | ((with_reducible refine gate_dst (N := 36) rfl ?_); refine fr_sub H (n := 2) rfl rfl rfl (by repeat (first | exact At.head | apply At.tail)) Try.underlying25 rfl (by kernel_rfl) (by simp only [List.toList_toArray, List.drop_succ_cons, List.drop_zero, List.take_succ_cons, List.take_zero]; rfl) (by rfl) ?_)
    | ((with_reducible refine gate_dst (N := 38) rfl ?_); refine fr_get H rfl rfl rfl (by repeat (first | exact At.head | apply At.tail)) Try.underlying3 rfl (by simp only [List.getElem?_toArray, List.getElem?_cons_succ, List.getElem?_cons_zero]; rfl) ?_)
    | ((with_reducible refine gate_dst (N := 40) rfl ?_); refine fr_get H rfl rfl rfl (by repeat (first | exact At.head | apply At.tail)) Try.underlying3 rfl (by simp only [List.getElem?_toArray, List.getElem?_cons_succ, List.getElem?_cons_zero]; rfl) ?_)
    | ((with_reducible refine gate_dst (N := 42) rfl ?_); refine fr_get H rfl rfl rfl (by repeat (first | exact At.head | apply At.tail)) Try.underlying4 rfl (by simp only [List.getElem?_toArray, List.getElem?_cons_succ, List.getElem?_cons_zero]; rfl) ?_)
    | ((with_reducible refine gate_dst (N := 44) rfl ?_); refine fr_sub H (n := 2) rfl rfl rfl (by repeat (first | exact At.head | apply At.tail)) Try.underlying25 rfl (by kernel_rfl) (by simp only [List.toList_toArray, List.drop_succ_cons, List.drop_zero, List.take_succ_cons, List.take_zero]; rfl) (by rfl) ?_)
    | ((with_reducible refine gate_dst (N := 46) rfl ?_); refine fr_sub H (n := 2) rfl rfl rfl (by repeat (first | exact At.head | apply At.tail)) Try.underlying28 rfl (by kernel_rfl) (by simp only [List.toList_toArray, List.drop_succ_cons, List.drop_zero, List.take_succ_cons, List.take_zero]; rfl) (by rfl) ?_)
    | ((with_reducible refine gate_dst (N := 48) rfl ?_); refine fr_get H rfl rfl rfl (by repeat (first | exact At.head | apply At.tail)) Try.underlying26 rfl (by simp only [List.getElem?_toArray, List.getElem?_cons_succ, List.getElem?_cons_zero]; rfl) ?_)
    | fail)
  refine ro_start (Frs _ _ _ _ _) [18] [0, 1, 2, 3, 4, 5, 6, 7, 8, 9, 10, 11, 12, 13, 14, 15, 16, 17, 18] 19 (by kernel_rfl) (by rfl) (by simp only [pickR, List.getElem?_cons_succ, List.getElem?_cons_zero]; rfl) (by rfl) (H.drewN 1) (fun HS => ?_)
  have H1 : Fr _ _ _ _ _ _ := HS
  clear HS H
  have H := H1
  clear H1
  repeat (first
    | ((with_reducible refine rz_call (f := 33) rfl ?_); refine ro_call 33 _ rfl (by kernel_rfl) (by kernel_rfl) (by rfl) Try.func33 (by kernel_rfl) rfl (by simp only [List.map_toArray, List.map_cons, List.map_nil]; rfl) ?_; (refine (HCL.out _ H.now).mono ?_); rintro e w' ⟨u, rfl, ho, hb⟩; obtain ⟨A1, c1, rfl, hc1, _⟩ := row_C ho HN.out; have HT := Tr_row H.avs H.chg.size ho; have H2 := H.call2 hb HT; have H1 := H.call hb; refine ⟨_, rfl, H1, fun _ => ?_⟩; clear hb ho HT H1 H; have H := H2; clear H2; (try simp only [Act.put, List.setIfInBounds_toArray, List.set_cons_zero, List.set_cons_succ, Nat.reduceAdd]))
    | ((with_reducible refine rz_dst (N := 9) rfl ?_); refine ro_box H rfl (by kernel_rfl) (by kernel_rfl) (by rfl) (by rfl) ?_; intro g9 w1 hg9 H1; clear H; have H := H1; clear H1; (try simp only [Act.put, List.setIfInBounds_toArray, List.set_cons_zero, List.set_cons_succ, Nat.reduceAdd]))
    | ((with_reducible refine rz_store (ty := 43) rfl ?_); refine ro_set H (u := .agg (List.toArray _)) rfl rfl (by kernel_rfl) (by kernel_rfl) (by rfl) (by rfl) (by rfl) (by repeat (first | exact At.head | apply At.tail)) (Nat.le_of_ble_eq_true rfl) (by simp only [Value.cells, List.take_succ_cons, List.take_zero, List.drop_succ_cons, List.drop_zero, List.cons_append, List.nil_append, List.size_toArray, List.length_cons, List.length_nil, Nat.reduceAdd, List.append_nil, List.drop_nil, List.take_nil, List.toList_toArray]; rfl) (by kernel_rfl) (by simp [Value.cells, Value.oneCell']) ?_; intro w1 H1; clear H; have H := H1; clear H1; (try simp only [Act.put, List.setIfInBounds_toArray, List.set_cons_zero, List.set_cons_succ, Nat.reduceAdd]))
    | ((with_reducible refine rz_store (ty := 28) rfl ?_); refine ro_set H (u := .agg (List.toArray _)) rfl rfl (by kernel_rfl) (by kernel_rfl) (by rfl) (by rfl) (by rfl) (by repeat (first | exact At.head | apply At.tail)) (Nat.le_of_ble_eq_true rfl) (by simp only [Value.cells, List.take_succ_cons, List.take_zero, List.drop_succ_cons, List.drop_zero, List.cons_append, List.nil_append, List.size_toArray, List.length_cons, List.length_nil, Nat.reduceAdd, List.append_nil, List.drop_nil, List.take_nil, List.toList_toArray]; rfl) (by kernel_rfl) (by simp [Value.cells, Value.oneCell']) ?_; intro w1 H1; clear H; have H := H1; clear H1; (try simp only [Act.put, List.setIfInBounds_toArray, List.set_cons_zero, List.set_cons_succ, Nat.reduceAdd]))
    | ((with_reducible refine rz_load (ty := 30) rfl ?_); refine ro_sub H (m := 11) rfl (by kernel_rfl) (fun _ _ _ h => h) (by rfl) (by rfl) (by repeat (first | exact At.head | apply At.tail)) Try.underlying30 rfl (by kernel_rfl) (by simp only [List.toList_toArray, List.drop_succ_cons, List.drop_zero, List.take_succ_cons, List.take_zero]; rfl) (by rfl) ?_; (try simp only [Act.put, List.setIfInBounds_toArray, List.set_cons_zero, List.set_cons_succ, Nat.reduceAdd]))
    | ((with_reducible refine rz_store (ty := 30) rfl ?_); refine ro_set H (u := .agg (List.toArray _)) rfl rfl (by kernel_rfl) (by kernel_rfl) (by rfl) (by rfl) (by rfl) (by repeat (first | exact At.head | apply At.tail)) (Nat.le_of_ble_eq_true rfl) (by simp only [Value.cells, List.take_succ_cons, List.take_zero, List.drop_succ_cons, List.drop_zero, List.cons_append, List.nil_append, List.size_toArray, List.length_cons, List.length_nil, Nat.reduceAdd, List.append_nil, List.drop_nil, List.take_nil, List.toList_toArray]; rfl) (by kernel_rfl) (by simp [Value.cells, Value.oneCell']) ?_; intro w1 H1; clear H; have H := H1; clear H1; (try simp only [Act.put, List.setIfInBounds_toArray, List.set_cons_zero, List.set_cons_succ, Nat.reduceAdd]))
    | ((with_reducible refine rz_load (ty := 25) rfl ?_); refine ro_sub H (m := 2) rfl (by kernel_rfl) (fun _ _ _ h => h) (by rfl) (by rfl) (by repeat (first | exact At.head | apply At.tail)) Try.underlying25 rfl (by kernel_rfl) (by simp only [List.toList_toArray, List.drop_succ_cons, List.drop_zero, List.take_succ_cons, List.take_zero]; rfl) (by rfl) ?_; (try simp only [Act.put, List.setIfInBounds_toArray, List.set_cons_zero, List.set_cons_succ, Nat.reduceAdd]))
    | ((with_reducible refine rz_load (ty := 3) rfl ?_); refine ro_get H rfl (by kernel_rfl) (fun _ _ _ h => h) (by rfl) (by rfl) (by repeat (first | exact At.head | apply At.tail)) Try.underlying3 rfl (by simp only [List.getElem?_toArray, List.getElem?_cons_succ, List.getElem?_cons_zero]; rfl) ?_; (try simp only [Act.put, List.setIfInBounds_toArray, List.set_cons_zero, List.set_cons_succ, Nat.reduceAdd]))
    | ((with_reducible refine rz_load (ty := 4) rfl ?_); refine ro_get H rfl (by kernel_rfl) (fun _ _ _ h => h) (by rfl) (by rfl) (by repeat (first | exact At.head | apply At.tail)) Try.underlying4 rfl (by simp only [List.getElem?_toArray, List.getElem?_cons_succ, List.getElem?_cons_zero]; rfl) ?_; (try simp only [Act.put, List.setIfInBounds_toArray, List.set_cons_zero, List.set_cons_succ, Nat.reduceAdd]))
    | ((with_reducible refine rz_load (ty := 28) rfl ?_); refine ro_sub H (m := 2) rfl (by kernel_rfl) (fun _ _ _ h => h) (by rfl) (by rfl) (by repeat (first | exact At.head | apply At.tail)) Try.underlying28 rfl (by kernel_rfl) (by simp only [List.toList_toArray, List.drop_succ_cons, List.drop_zero, List.take_succ_cons, List.take_zero]; rfl) (by rfl) ?_; (try simp only [Act.put, List.setIfInBounds_toArray, List.set_cons_zero, List.set_cons_succ, Nat.reduceAdd]))
    | ((with_reducible refine rz_load (ty := 26) rfl ?_); refine ro_get H rfl (by kernel_rfl) (fun _ _ _ h => h) (by rfl) (by rfl) (by repeat (first | exact At.head | apply At.tail)) Try.underlying26 rfl (by simp only [List.getElem?_toArray, List.getElem?_cons_succ, List.getElem?_cons_zero]; rfl) ?_; (try simp only [Act.put, List.setIfInBounds_toArray, List.set_cons_zero, List.set_cons_succ, Nat.reduceAdd]))
    | (refine ro_off (by kernel_rfl) (fun _ _ _ h => h) (by rfl) ?_; (try simp only [Act.put, List.setIfInBounds_toArray, List.set_cons_zero, List.set_cons_succ, Nat.reduceAdd]))
    | (refine ro_pure (by kernel_rfl) (fun _ _ _ h => h) (by rfl) (fun W K hK => by go_simp; exact hK.out) ?_; (try simp only [Act.put, List.setIfInBounds_toArray, List.set_cons_zero, List.set_cons_succ, Nat.reduceAdd])))
  refine ro_done (by kernel_rfl) ?_
  go_wp2
  refine bodyPost_ret (results_c rfl _ _ g10 43 _ (0, 0) _ rfl (H.of (by repeat (first | exact At.head | apply At.tail))) Try.underlying43 rfl (by kernel_rfl)) rfl ?_
  exact ⟨A1, c1, rfl, H.of (by repeat (first | exact At.head | apply At.tail)), H.now.2, H.chg⟩
end Go.Proofs.Ytbmfgcekglgliaa.G

namespace Go.Proofs.Ytbmfgcekglgliaa.G
open Go.RowKit Go.Proofs.YtbmfgcekglgliaaW.PrintWords Go.Proofs.YtbmfgcekglgliaaW.PrintLast Go.Proofs.YtbmfgcekglgliaaW.PrintMore Go.Proofs.YtbmfgcekglgliaaPl Go.Proofs.YtbmfgcekglgliaaEm Go.Proofs.YtbmfgcekglgliaaKr Go.Proofs.YtbmfgcekglgliaaRz Go.Proofs.Ytbmfgcekglgliaa.X
set_option linter.unusedVariables false
set_option linter.unusedSimpArgs false
structure Inp where
  ticks : Int
  heard : List Hd
  ref : Bool
  reading : Int
  given : Bool
  tab : List Lp
def rdB (p : Par) (x : Inp) : Bool := seenB p x.reading && x.ref
def snP (p : Par) (x : Inp) : Int × Int := if rdB p x = true then seenP p x.reading else (0, 0)
def wayOf (p : Par) (h : Hd) : Sp := ⟨(wayP p h.slo h.shi h.age).1, (wayP p h.slo h.shi h.age).2⟩
def waysOf (p : Par) (l : List Hd) : List Sp := (l.filter (·.ref)).map (wayOf p)
def seenL (p : Par) (x : Inp) : List Sp := if rdB p x = true then [⟨(snP p x).1, (snP p x).2⟩] else []
def spansP (p : Par) (me : Int) (x : Inp) : List Sp := seenL p x ++ waysOf p (unB (told p.N me x.heard))
def nextS (p : Par) (me : Int) (s : St) (x : Inp) : St where
  lo := if (fuse p.F (spansP p me x)).2.2 = true then (fuse p.F (spansP p me x)).1 else sadd [s.lo, ssub x.ticks p.Rho]
  hi := if (fuse p.F (spansP p me x)).2.2 = true then (fuse p.F (spansP p me x)).2.1 else sadd [s.hi, sadd [x.ticks, p.Rho]]
  time := s.time
  set := s.set
  held := if (fuse p.F (spansP p me x)).2.2 = true then 0 else moreP s.held
  hops := 0
  good := if (fuse p.F (spansP p me x)).2.2 = true then true else s.good
  tab := if x.given = true then x.tab else s.tab
  st := s.st
  sn := s.sn
  life := s.life
def stampS (s : St) : St := { s with st := (tickP s.st s.sn s.time).1, sn := (tickP s.st s.sn s.time).2 }
def beatS0 (p : Par) (me : Int) (s : St) (x : Inp) : St := stepS p s x.ticks (nextS p me s x)
def beatS (p : Par) (me : Int) (s : St) (x : Inp) : St := stampS (beatS0 p me s x)
def flS (l : List Sp) : List Value := l.flatMap (fun x => [.int .i64 x.f0, .int .i64 x.f1])
theorem flS_snoc (l : List Sp) (x : Sp) : flS (l ++ [x]) = flS l ++ [.int .i64 x.f0, .int .i64 x.f1] := by unfold flS; rw [List.flatMap_append]; simp
theorem flS_one (a b : Int) : ∀ u ∈ [Value.int .i64 a, .int .i64 b], u.oneCell' = true := by
  intro u hu
  simp at hu
  rcases hu with rfl | rfl <;> rfl
theorem flS_at : ∀ (l : List Sp) (j i : Nat) (q : Sp) (u : Value), l[j]? = some q → [Value.int .i64 q.f0, .int .i64 q.f1][i]? = some u → (flS l)[j * 2 + i]? = some u
  | [], j, i, q, u, h, _ => by simp at h
  | x :: l, 0, i, q, u, h, hu => by
    simp at h
    subst h
    rw [show 0 * 2 + i = i by omega]
    show ([Value.int .i64 x.f0, .int .i64 x.f1] ++ flS l)[i]? = some u
    rw [List.getElem?_append_left (List.getElem?_eq_some_iff.1 hu).1]
    exact hu
  | x :: l, j + 1, i, q, u, h, hu => by
    have := flS_at l j i q u (by simpa using h) hu
    rw [show (j + 1) * 2 + i = j * 2 + i + 1 + 1 by omega]
    exact this
theorem rowS_C {W : World} {b n c : Nat} {A : Option Addr} {l : List Sp} (h : W.ownsRow b 25 2 (.slice A n c) n (flS l)) (hn : l.length = n) : n ≤ c ∧ Kd.C k25 W A n l := by
  obtain ⟨h1, h2 | ⟨g, cap, cur, h2, h3, h4, h5, h6, h7, h8⟩⟩ := h
  · obtain ⟨h2, h3⟩ := h2
    injection h2 with e1 e2 e3
    exact ⟨by omega, ⟨hn, by omega, fun h => by omega⟩⟩
  · injection h2 with e1 e2 e3
    subst e1 e3
    refine ⟨h5, ⟨hn, by unfold maxLen at h6; omega, fun _ => ⟨_, rfl, fun j q hq => ?_⟩⟩⟩
    refine ⟨[.int .i64 q.f0, .int .i64 q.f1], rfl, k25_mk W q, fun i u hu => ?_⟩
    have hj : j < l.length := (List.getElem?_eq_some_iff.1 hq).1
    have hi : i < 2 := (List.getElem?_eq_some_iff.1 hu).1
    show W.cell? ((⟨g, 0, none⟩ : Addr).add (j * 2 + i)) = _
    rw [show ((⟨g, 0, none⟩ : Addr).add (j * 2 + i)) = ⟨g, j * 2 + i, none⟩ by
      unfold Addr.add
      split
      · rename_i h0; simp at h0; obtain ⟨e1, e2⟩ := h0; rw [show j * 2 + i = 0 by omega]
      · simp, blk_cell h4]
    have e : (flS l)[j * 2 + i]? = some u := flS_at l j i q u hq hu
    rw [← h8, List.getElem?_take] at e
    split at e
    · simpa using e
    · cases e
theorem infoS : (Try.prog.info? 25).map (fun i => (i.zero, i.size, i.bytes)) = some (some (.agg #[.int .i64 0, .int .i64 0]), 2, 16) := by kernel_rfl
theorem Fr.appended2 {M A : Nat → Prop} {w W W1 : World} {bl : List (Nat × Obj)} {p q : World → Prop} {e : TypeId} {sz n c : Nat} {Ao : Option Addr} {xs : List Value} (H : Fr M A w W bl q) (hM : ∀ k, M k → A k) (hp0 : Tr A w p) (hO : W.ownsRow w.heap.size e sz (.slice Ao n c) n xs) (hne : ∀ x, x ∈ bl → ∀ ad, Ao = some ad → x.1 ≠ ad.block) (hg : W.grownBy W1 (Value.slice Ao n c).ownBlock) : Fr M A w W1 bl p := by
  have hb : ∀ k, (Value.slice Ao n c).ownBlock = some k → ∃ ad, Ao = some ad ∧ ad.block = k := fun k hk => by
    cases Ao with
    | none => cases hk
    | some ad => exact ⟨ad, rfl, by injection hk⟩
  have hr : ∀ k, (Value.slice Ao n c).ownBlock = some k → w.heap.size ≤ k ∧ ¬ Of bl k := fun k hk => by
    obtain ⟨ad, e1, rfl⟩ := hb k hk
    exact ⟨(own_lo hO ad e1).1, fun ⟨x, hx, e2⟩ => hne x hx ad e1 e2⟩
  have hold : ∀ k, Of bl k → k < w.heap.size → A k := fun k ⟨x, hx, e1⟩ hk => by
    rcases (H.blk x hx).2 with q | q
    · omega
    · exact hM k (e1 ▸ q)
  have H1 : Fr M A w W bl p := ⟨H.av, H.chg, H.blk, H.nd, Tr.later hp0 H.chg hM (fun k hk hl => hk.elim id (fun h => hold k h hl))⟩
  refine Fr.grow H1 hg hr (Tr.later hp0 H.chg hM (fun k hk hl => ?_))
  rcases hk with (hk | hk) | hk
  · exact hk
  · exact hold k hk hl
  · have := (hr k hk).1
    omega
theorem own_grown {W W1 : World} {b : Nat} {e : TypeId} {sz n : Nat} {v : Value} {xs : List Value} {r : Option Nat} (h : W.ownsRow b e sz v n xs) (hg : W.grownBy W1 r) (hne : ∀ k, v.ownBlock = some k → some k ≠ r) : W1.ownsRow b e sz v n xs := by
  refine ⟨h.1, ?_⟩
  rcases h.2 with h2 | ⟨g, cap, cur, h2, h3, h4, h5⟩
  · exact .inl h2
  · refine .inr ⟨g, cap, cur, h2, h3, ?_, h5⟩
    rw [hg.block g (Go.Proofs.YtbmfgcekglgliaaEm.obj_lt h4) (hne g (by rw [h2]; rfl))]
    exact h4
theorem own_apart {W : World} {b b' : Nat} {e e' : TypeId} {sz n sz' n' : Nat} {v v' : Value} {xs xs' : List Value} (h : W.ownsRow b e sz v n xs) (h' : W.ownsRow b' e' sz' v' n' xs') (he : e ≠ e') : ∀ k, v.ownBlock = some k → some k ≠ v'.ownBlock := by
  intro k hk hk'
  rcases h.2 with ⟨rfl, _⟩ | ⟨g, cap, cur, rfl, h3, h4, h5⟩
  · cases hk
  · rcases h'.2 with ⟨rfl, _⟩ | ⟨g', cap', cur', rfl, h3', h4', h5'⟩
    · cases hk'
    · have e1 : g = k := by injection hk
      have e2 : k = g' := by injection hk'
      subst e1 e2
      rw [h4] at h4'
      injection h4' with h4'
      injection h4' with _ h4'
      exact he h4'
theorem Tr_own2 {M A : Nat → Prop} {w W : World} {bl : List (Nat × Obj)} {p : World → Prop} {b b' : Nat} {e : TypeId} {sz n : Nat} {v : Value} {xs : List Value} (H : Fr M A w W bl p) (h : W.ownsRow b e sz v n xs) (hb : b' ≤ b) (hw : w.heap.size ≤ b) (hne : ∀ x, x ∈ bl → ∃ cs t, x.2 = .cells cs t (0, 0) ∧ t ≠ e) : Tr (fun k => A k ∨ Of bl k) W (fun W1 => W1.ownsRow b' e sz v n xs) := by
  intro W1 hW
  refine ⟨h.1, ?_⟩
  rcases h.2 with h2 | ⟨g, cap, cur, h2, h3, h4, h5⟩
  · exact .inl h2
  · refine .inr ⟨g, cap, cur, h2, Nat.le_trans hb h3, ?_, h5⟩
    rw [hW g (fun hk => ?_) (Go.Proofs.YtbmfgcekglgliaaEm.obj_lt h4)]
    · exact h4
    · rcases hk with hk | ⟨x, hx, e1⟩
      · have := H.av g hk; omega
      · obtain ⟨cs, t, e2, e3⟩ := hne x hx
        have := (H.blk x hx).1
        rw [e1, e2, h4] at this
        injection this with this
        injection this with _ this
        exact e3 this.symm
theorem Fr.turnRow {M A : Nat → Prop} {w W W1 : World} {bl bl' : List (Nat × Obj)} {p : World → Prop} {g : Nat} {old new : Obj} {e : TypeId} {sz n : Nat} {v : Value} {xs : List Value} (h : Fr M A w W bl p) (ha : At bl g old new bl') (hb : W1.heap[g]? = some new) (hc : Chg (fun k => k = g) W W1) (ho : W1.ownsRow W.heap.size e sz v n xs) : Fr M A w W1 bl' (fun W => p W ∧ W.ownsRow w.heap.size e sz v n xs) := by
  refine (h.turn ha hb hc).and ?_
  intro W2 hW
  refine ⟨ho.1, ?_⟩
  rcases ho.2 with h2 | ⟨g1, cap, cur, h2, h3, h4, h5⟩
  · exact .inl h2
  · refine .inr ⟨g1, cap, cur, h2, Nat.le_trans h.chg.size h3, ?_, h5⟩
    rw [hW g1 (fun hk => ?_) (Go.Proofs.YtbmfgcekglgliaaEm.obj_lt h4)]
    · exact h4
    · have := h.avs g1 (hk.imp id (ha.of g1).1)
      omega
end Go.Proofs.Ytbmfgcekglgliaa.G
