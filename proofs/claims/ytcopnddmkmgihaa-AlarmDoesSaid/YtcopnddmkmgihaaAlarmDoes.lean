/- AlarmDoes: in every script each answer is the document's: the walk. -/
import Derived.Test.YtcopnddmkmgihaaAr
import Derived.Deep.RegionHeld3
namespace Go.Proofs.Ytcopnddmkmgihaa.Ak
open Go.RowKit Go.Proofs.YtcopnddmkmgihaaW.PrintWords Go.Proofs.YtcopnddmkmgihaaW.PrintLast Go.Proofs.YtcopnddmkmgihaaW.PrintMore Go.Proofs.YtcopnddmkmgihaaEv
set_option linter.unusedVariables false
set_option linter.unusedSimpArgs false
open Go.Proofs.Ytcopnddmkmgihaa.Y
/-! a call of the script -/
structure S42 where
  f0 : Int
  f1 : Int
  f2 : Int
def z42 : S42 := ⟨0, 0, 0⟩
def k42 : Kd S42 := Kd.iso (Kd.pair (Kd.int .i64) (Kd.pair (Kd.int .i64) (Kd.int .i64))) (fun x : S42 => (x.f0, x.f1, x.f2))
theorem k42_open {w : World} {x : S42} {cs : List Value} (h : k42.K w x cs) : cs = [.int .i64 x.f0, .int .i64 x.f1, .int .i64 x.f2] := by
  obtain ⟨_, _, rfl, rfl, ⟨_, _, rfl, rfl, rfl⟩⟩ := h
  exact rfl
def rd42 (xs : List S42) (i : Nat) : S42 := xs.getD i z42
theorem in42 {w0 w : World} {A : Option Addr} {xs : List S42} (h : Kd.C k42 w0 A xs.length xs) (hb : Below w0.heap.size w0 w) (k : Nat) (hk : k < xs.length) :
    ∃ ad, A = some ad ∧ ∀ j u, [Value.int .i64 (rd42 xs k).f0, .int .i64 (rd42 xs k).f1, .int .i64 (rd42 xs k).f2][j]? = some u → w.cell? ((ad.add (k * 3)).add j) = some u := by
  obtain ⟨ad, c, e, _, hK, hc⟩ := Kd.C_get h z42 k (by omega) (by omega)
  have e2 := k42_open hK
  refine ⟨ad, e, fun j u hu => ?_⟩
  rw [add_add]
  refine pw_cell_below hb ?_
  have : w0.cell? (ad.add ((k : Int).toNat * 3 + j)) = some u := hc j u (by rw [e2]; exact hu)
  simpa using this
/-! both tables, and the call -/
structure Trio (w0 w : World) (t : Nat) (l : List (Int × Int)) (r : Nat) (m : List (Int × Int)) : Prop where
  st : St w0 w t l
  rt : ∃ v, RTab w r v m
  low : w0.heap.size ≤ r
theorem Trio.below {w0 w w' : World} {t r : Nat} {l m : List (Int × Int)} (h : Trio w0 w t l r m) (hb : Below w.heap.size w w') : Trio w0 w' t l r m := by
  obtain ⟨v, hv⟩ := h.rt
  exact ⟨h.st.on hb, ⟨v, hv.below hb⟩, h.low⟩
theorem RTab.oth {w w' : World} {r : Nat} {v : Value} {m : List (Int × Int)} (h : RTab w r v m) (g : Oth w w') : RTab w' r v m := by
  refine ⟨g.same r _ h.blk (fun c => ⟨by simp, by simp⟩), h.row.1, ?_⟩
  rcases h.row.2 with hn | ⟨b, cap, cur, e, hb, hbb, rest⟩
  · exact .inl hn
  · exact .inr ⟨b, cap, cur, e, hb, g.same b _ hbb (fun c => ⟨by simp, by simp⟩), rest⟩
theorem St.ref {w0 w w' : World} {t r : Nat} {l m : List (Int × Int)} {v : Value} (h : St w0 w t l) (hr : RTab w r v m) (hlow : w0.heap.size ≤ r) (g : Chg (fun k => k = r) w w') : St w0 w' t l := by
  obtain ⟨u, h1, h2⟩ := h.tab
  refine ⟨⟨u, h1.keep g (fun k hk e => ?_), h2⟩, h.good, h.len, Chg.below h.below g h.below.size (fun k hk e => by omega)⟩
  subst e
  obtain ⟨c, e | e⟩ := h1.types k hk
  · exact absurd (hr.blk.symm.trans e) (by simp)
  · exact absurd (hr.blk.symm.trans e) (by simp)
/-- A block of another type, and a row of numbers of one's own, stay. -/
def Cel (w : World) (b : Nat) (x0 x1 x2 : Int) : Prop := w.heap[b]? = some (.cells #[.int .i64 x0, .int .i64 x1, .int .i64 x2] 42 (0, 0))
theorem Cel.oth {w w' : World} {b : Nat} {x0 x1 x2 : Int} (h : Cel w b x0 x1 x2) (g : Oth w w') : Cel w' b x0 x1 x2 := g.same b _ h (fun c => ⟨by simp, by simp⟩)
theorem Cel.chg {w w' : World} {b r : Nat} {x0 x1 x2 : Int} {v : Value} {m : List (Int × Int)} (h : Cel w b x0 x1 x2) (hr : RTab w r v m) (g : Chg (fun k => k = r) w w') : Cel w' b x0 x1 x2 :=
  (g.block b (blk_lt h) (fun e => by subst e; exact absurd (h.symm.trans hr.blk) (by simp))).trans h
theorem Cel.cells {w : World} {b : Nat} {x0 x1 x2 : Int} (h : Cel w b x0 x1 x2) : w.cell? ⟨b, 0, none⟩ = some (.int .i64 x0) ∧ w.cell? ⟨b, 1, none⟩ = some (.int .i64 x1) ∧ w.cell? ⟨b, 2, none⟩ = some (.int .i64 x2) :=
  ⟨blk_cell h 0, blk_cell h 1, blk_cell h 2⟩
theorem pw_cells_below {w w' : World} {b : Nat} {x0 x1 x2 : Int} (hb : Below w.heap.size w w') (h : Cel w b x0 x1 x2) : w'.cell? ⟨b, 0, none⟩ = some (.int .i64 x0) ∧ w'.cell? ⟨b, 1, none⟩ = some (.int .i64 x1) ∧ w'.cell? ⟨b, 2, none⟩ = some (.int .i64 x2) :=
  Cel.cells ((hb.block b (blk_lt h)).trans h)
theorem tset1 {w0 w : World} {t r b : Nat} {l m : List (Int × Int)} {x0 x1 x2 : Int} (h : Trio w0 w t l r m ∧ Cel w b x0 x1 x2) (id at_ : Int) :
    Calls Try.prog 13 #[.pointer (some ⟨t, 0, none⟩), .int .i64 id, .int .i64 at_] w fun e w' => e = .returned (.int .i64 (setL l id at_).1) ∧ Hid (Trio w0 w' t (setL l id at_).2 r m ∧ Cel w' b x0 x1 x2) := by
  refine (set_st h.1.st id at_).mono ?_
  rintro e w' ⟨rfl, h1, h2⟩
  obtain ⟨v, hv⟩ := h.1.rt
  exact ⟨rfl, Lib.hid ⟨⟨h1, ⟨v, hv.oth h2⟩, h.1.low⟩, h.2.oth h2⟩⟩
theorem tset2 {w0 w : World} {t r b : Nat} {l m : List (Int × Int)} {x0 x1 x2 : Int} (h : Trio w0 w t l r m ∧ Cel w b x0 x1 x2) (id at_ : Int) (hm : m.length ≤ 64) (e0 : Int) (he : (setR m id at_).1 = e0) :
    Calls Try.prog 17 #[.pointer (some ⟨r, 0, none⟩), .int .i64 id, .int .i64 at_] w fun e w' => e = .returned (.int .i64 e0) ∧ Hid (Trio w0 w' t l r (setR m id at_).2 ∧ Cel w' b x0 x1 x2) := by
  obtain ⟨v, hv⟩ := h.1.rt
  refine (RSet_calls w r v m hv id at_ hm).mono ?_
  rintro e w' ⟨rfl, u, h1, h2⟩
  exact ⟨by rw [he], Lib.hid ⟨⟨h.1.st.ref hv h.1.low h2, ⟨u, h1⟩, h.1.low⟩, h.2.chg hv h2⟩⟩
theorem tdrop1 {w0 w : World} {t r b : Nat} {l m : List (Int × Int)} {x0 x1 x2 : Int} (h : Trio w0 w t l r m ∧ Cel w b x0 x1 x2) (id : Int) :
    Calls Try.prog 18 #[.pointer (some ⟨t, 0, none⟩), .int .i64 id] w fun e w' => e = .returned (.int .i64 (dropE l id)) ∧ Hid (Trio w0 w' t (rem l id) r m ∧ Cel w' b x0 x1 x2) := by
  obtain ⟨u, h1, h2⟩ := h.1.st.tab
  refine (Drop_calls w t u l h1 id h.1.st.len).mono ?_
  rintro e w' ⟨v', rfl, ht, hc, hown⟩
  have ho := Oth.of_chg h1 hc
  obtain ⟨v, hv⟩ := h.1.rt
  exact ⟨rfl, Lib.hid ⟨⟨⟨⟨v', ht, fun k hk => h2 k (hk.imp (fun z => z) (fun z => hown.symm.trans z))⟩, good_rem h.1.st.good id, Nat.le_trans (rem_length l id) h.1.st.len, Chg.below h.1.st.below hc h.1.st.below.size (fun k hk q => by have := h2 k q; omega)⟩, ⟨v, hv.oth ho⟩, h.1.low⟩, h.2.oth ho⟩⟩
theorem tdrop2 {w0 w : World} {t r b : Nat} {l m : List (Int × Int)} {x0 x1 x2 : Int} (h : Trio w0 w t l r m ∧ Cel w b x0 x1 x2) (id : Int) (hm : m.length ≤ 64) (e0 : Int) (he : anyE m id = e0) :
    Calls Try.prog 19 #[.pointer (some ⟨r, 0, none⟩), .int .i64 id] w fun e w' => e = .returned (.int .i64 e0) ∧ Hid (Trio w0 w' t l r (flt m id) ∧ Cel w' b x0 x1 x2) := by
  obtain ⟨v, hv⟩ := h.1.rt
  refine (RDrop_calls w r v m hv id (by omega)).mono ?_
  rintro e w' ⟨rfl, u, h1, _, h2⟩
  exact ⟨by rw [he], Lib.hid ⟨⟨h.1.st.ref hv h.1.low h2, ⟨u, h1⟩, h.1.low⟩, h.2.chg hv h2⟩⟩
/-- A row of numbers, in a block of its own. -/
def Rn (w : World) (r : Nat) (A : Option Addr) (n c : Nat) (xs : List Int) : Prop := ∃ base, r < base ∧ w.ownsRow base 3 1 (.slice A n c) n (xs.map (.int .i64))
theorem Rn.chg {w w' : World} {r n c : Nat} {A : Option Addr} {xs : List Int} (h : Rn w r A n c xs) (g : Chg (fun k => k = r) w w') : Rn w' r A n c xs := by
  obtain ⟨base, h1, h2⟩ := h
  exact ⟨base, h1, ownsRow_chg h2 g (fun k e => by omega)⟩
theorem Rn.reads {w : World} {r n c : Nat} {A : Option Addr} {xs : List Int} (h : Rn w r A n c xs) : xs.length = n ∧ Kd.C (Kd.int .i64) w A xs.length xs ∧ xs.length ≤ c := by
  obtain ⟨base, _, h⟩ := h
  have hl := h.1
  rw [List.length_map, Nat.mul_one] at hl
  obtain ⟨A', c', e, h2⟩ := own_reads_row h (reps_ints w xs) hl
  injection e with e1 _ e3
  subst e1
  subst e3
  refine ⟨hl, by rw [hl]; exact h2, ?_⟩
  rcases h.2 with ⟨q, h0⟩ | ⟨g, cap, cur, q, _, _, h1, _⟩
  · omega
  · injection q with _ _ q
    subst q
    omega
theorem tdue1 {w0 w : World} {t r b : Nat} {l m : List (Int × Int)} {x0 x1 x2 : Int} (h : Trio w0 w t l r m ∧ Cel w b x0 x1 x2) (now : Int) (n : Nat) (hn : (l.takeWhile (due now)).length = n) :
    Calls Try.prog 14 #[.pointer (some ⟨t, 0, none⟩), .int .i64 now] w fun e w' => ∃ A c, e = .returned (.slice A n c) ∧ Hid (Trio w0 w' t (l.dropWhile (due now)) r m ∧ Cel w' b x0 x1 x2) ∧ Hid (Rn w' r A n c ((l.takeWhile (due now)).map (·.1))) := by
  obtain ⟨v, hv⟩ := h.1.rt
  refine (due_st h.1.st now).mono ?_
  rintro e w' ⟨u, rfl, hr, h1, h2⟩
  obtain ⟨A, c, rfl⟩ := own_slice hr
  rw [hn] at hr ⊢
  exact ⟨A, c, rfl, Lib.hid ⟨⟨h1, ⟨v, hv.oth h2⟩, h.1.low⟩, h.2.oth h2⟩, Lib.hid ⟨_, hv.lt, by rw [List.map_map]; exact hr⟩⟩
theorem tdue2 {w0 w : World} {t r b : Nat} {l l' m : List (Int × Int)} {x0 x1 x2 : Int} {A1 : Option Addr} {n c1 : Nat} {xs : List Int} (h : Trio w0 w t l' r m ∧ Cel w b x0 x1 x2) (hr : Rn w r A1 n c1 xs) (hg : Good l) (hl : l.length ≤ 64) (hp : l.Perm m) (now : Int) (hn : (l.takeWhile (due now)).length = n) :
    Calls Try.prog 21 #[.pointer (some ⟨r, 0, none⟩), .int .i64 now] w fun e w' => ∃ A c m', e = .returned (.slice A n c) ∧ Hid ((l.dropWhile (due now)).Perm m') ∧ Hid (Trio w0 w' t l' r m' ∧ Cel w' b x0 x1 x2) ∧ Hid (Rn w' r A1 n c1 xs) ∧ Hid (Rn w' r A n c ((l.takeWhile (due now)).map (·.1))) := by
  obtain ⟨v, hv⟩ := h.1.rt
  refine (RDue_calls w r v l m hv hg hp hl now).mono ?_
  rintro e w' ⟨u, v', m', rfl, ho, h1, h2, h3⟩
  obtain ⟨A, c, rfl⟩ := own_slice ho
  rw [hn] at ho ⊢
  exact ⟨A, c, m', rfl, Lib.hid h2, Lib.hid ⟨⟨h.1.st.ref hv h.1.low h3, ⟨v', h1⟩, h.1.low⟩, h.2.chg hv h3⟩, Lib.hid (hr.chg h3), Lib.hid ⟨_, hv.lt, by rw [List.map_map]; exact ho⟩⟩
theorem tsame {w : World} {r n c1 c2 : Nat} {A1 A2 : Option Addr} {xs : List Int} (h1 : Rn w r A1 n c1 xs) (h2 : Rn w r A2 n c2 xs) (hl : n ≤ 4096) : Calls Try.prog 20 #[.slice A1 n c1, .slice A2 n c2] w fun e w' => e = .returned (.bool true) ∧ Hid (Below w.heap.size w w') := by
  obtain ⟨e1, a1, b1⟩ := h1.reads
  obtain ⟨_, a2, b2⟩ := h2.reads
  subst e1
  refine (clepsydraref09_Same.calls _ A1 c1 xs A2 c2 xs true w a1 b1 a2 b2 (same_f xs hl)).mono ?_
  rintro e w' ⟨rfl, hd⟩
  exact ⟨rfl, Lib.hid hd.below⟩
theorem tnext1 {w0 w : World} {t r : Nat} {l m : List (Int × Int)} (h : Trio w0 w t l r m) : Calls Try.prog 16 #[.pointer (some ⟨t, 0, none⟩)] w fun e w' => e = .returned (.tuple #[.int .i64 (next l).1, .bool (next l).2]) ∧ w' = w := next_st h.st
theorem tnext2 {w0 w : World} {t r : Nat} {l m : List (Int × Int)} (h : Trio w0 w t l r m) (hp : l.Perm m) : Calls Try.prog 22 #[.pointer (some ⟨r, 0, none⟩)] w fun e w' => e = .returned (.tuple #[.int .i64 (next l).1, .bool (next l).2]) ∧ Hid (Trio w0 w' t l r m) := by
  obtain ⟨v, hv⟩ := h.rt
  refine (RNext_calls w r v l m hv h.st.good.ord hp h.st.len).mono ?_
  rintro e w' ⟨rfl, hb⟩
  exact ⟨rfl, Lib.hid (h.below hb)⟩
theorem Trio.slice {w0 w : World} {t r : Nat} {l m : List (Int × Int)} (h : Trio w0 w t l r m) (hp : l.Perm m) : ∃ A c, w.cell? ⟨r, 0, none⟩ = some (.slice A l.length c) := by
  obtain ⟨v, hv⟩ := h.rt
  obtain ⟨A, c, rfl, _⟩ := hv.row.slice
  exact ⟨A, c, by rw [hp.length_eq]; exact hv.cell⟩
set_option maxRecDepth 100000 in
theorem Due_nil (w : World) (now : Int) : Calls Try.prog 14 #[.pointer none, .int .i64 now] w fun e w' => e = .returned (.slice none 0 0) ∧ Below w.heap.size w w' := by
  go_enter Try.func14, Try.ntmps14
  go_wp2
  go_loopw [5] (fun u wr => u = .slice none 0 0 ∧ Below w.heap.size w wr) (fun _ _ => 0)
  case atStart => exact ⟨rfl, Below.refl _ _⟩
  case round =>
    obtain ⟨rfl, hb⟩ := hrel
    go_wp2
    go_ret
    exact ⟨rfl, hb⟩
set_option maxRecDepth 100000 in
set_option maxHeartbeats 8000000 in
theorem clepsydralaw09_AlarmDoes.calls (A0 : Option Addr) (c0 : Nat) (l0 : List S42) (w : World) (hr0 : Kd.C k42 w A0 l0.length l0) (hc0 : l0.length ≤ c0) :
    Calls Try.prog 6 #[.slice A0 l0.length c0] w fun e w' => e = .returned (.bool true) ∧ Below w.heap.size w w' := by
  have R0 := Lib.hid hr0
  clear hr0 hc0
  by_cases hg : (l0.length : Int) > 200
  · go_enter Try.func6, Try.ntmps6
    go_wp2_with (go_at_call 11; (with_reducible refine (alive_calls _).mono ?_); rintro e wa ⟨rfl, HB⟩)
    go_ret
    exact ⟨rfl, HB⟩
  have h200 : l0.length ≤ 200 := by omega
  have H200 := Lib.hid h200
  clear h200
  go_enter Try.func6, Try.ntmps6
  go_wp2_with (first
    | (go_at_call 11; (with_reducible refine (alive_calls _).mono ?_); rintro e wa ⟨rfl, HB⟩)
    | (go_at_call 12; (with_reducible refine (new_to w _ HB).mono ?_); rintro e w1 ⟨t, rfl, S0, B0⟩))
  clear hg
  have T0 : Hid (Trio w (w1.alloc (.cells #[.slice none 0 0] 40 (0, 0))) t [] w1.heap.size []) := Lib.hid ⟨S0.out.on (below_alloc (Below.refl _ _) _), ⟨.slice none 0 0, blk_new w1 _, Rw.nil _ _⟩, S0.out.below.size⟩
  clear S0 B0 HB
  generalize w1.heap.size = r at T0 ⊢
  go_loopw [25] (fun v25 wr => ∃ (k : Nat) (l m : List (Int × Int)), k ≤ l0.length ∧ v25 = .int .i64 k ∧ Hid (Trio w wr t l r m) ∧ Hid (l.Perm m)) (fun v25 _ => l0.length - (intOf v25).toNat)
  case atStart => exact ⟨0, [], [], by omega, rfl, T0, Lib.hid (List.Perm.refl _)⟩
  case round =>
    clear T0
    obtain ⟨k, l, m, hk, rfl, T, HP⟩ := hrel
    by_cases hlt : k < l0.length
    · have hk1 : (k : Int) < (l0.length : Int) := by omega
      have h200 := H200.out
      have hs1 : -9223372036854775808 ≤ (k : Int) + 1 := by omega
      have hs2 : (k : Int) + 1 ≤ 9223372036854775807 := by omega
      obtain ⟨ad, e, hx⟩ := in42 R0.out T.out.st.below k hlt
      cases e
      generalize (rd42 l0 k).f0 = x0 at hx
      generalize (rd42 l0 k).f1 = x1 at hx
      generalize (rd42 l0 k).f2 = x2 at hx
      have HC := Lib.hid hx
      clear hx h200
      have HML : Hid (m.length ≤ 64) := Lib.hid (by rw [← HP.out.length_eq]; exact T.out.st.len)
      by_cases k0 : x0 = 0
      · subst k0
        go_wp2_with ((with_reducible refine gate_dst (N := 28) rfl ?_); refine load_cells rfl rfl (ad := ad.add (k * 3)) (cs := [.int .i64 0, .int .i64 x1, .int .i64 x2]) ?hx Try.underlying42 rfl (by kernel_rfl) HC.out ?_; (case hx => first | rfl | (go_simp; done) | (go_simp; rfl)))
        have TC : Hid (Trio w (wr.alloc (.cells #[.int .i64 0, .int .i64 x1, .int .i64 x2] 42 (0, 0))) t l r m ∧ Cel (wr.alloc (.cells #[.int .i64 0, .int .i64 x1, .int .i64 x2] 42 (0, 0))) wr.heap.size 0 x1 x2) := Lib.hid ⟨T.out.below (below_alloc (Below.refl _ _) _), blk_new wr _⟩
        clear T
        generalize wr.alloc (.cells #[.int .i64 0, .int .i64 x1, .int .i64 x2] 42 (0, 0)) = W at TC ⊢
        generalize wr.heap.size = b at TC ⊢
        obtain ⟨e0, he0⟩ : ∃ e0, (setL l x1 x2).1 = e0 := ⟨_, rfl⟩
        obtain ⟨l', hl'⟩ : ∃ l', (setL l x1 x2).2 = l' := ⟨_, rfl⟩
        obtain ⟨m', hm'⟩ : ∃ m', (setR m x1 x2).2 = m' := ⟨_, rfl⟩
        have HS := Lib.hid (fun W (h : Trio w W t l r m ∧ Cel W b 0 x1 x2) => tset1 h x1 x2)
        have hpair := set_pair TC.out.1.st.good HP.out x1 x2
        rw [he0, hl'] at HS
        have HR := Lib.hid (fun W (h : Trio w W t l' r m ∧ Cel W b 0 x1 x2) => tset2 h x1 x2 HML.out e0 (by rw [← hpair.1, he0]))
        rw [hm'] at HR
        have HPP : Hid (l'.Perm m') := Lib.hid (by rw [← hl', ← hm']; exact hpair.2)
        clear hpair he0 hl' hm' HP HML
        go_region_held3 (fun w' => w'.cell? ⟨b, 0, none⟩ = some (.int .i64 0) ∧ w'.cell? ⟨b, 1, none⟩ = some (.int .i64 x1) ∧ w'.cell? ⟨b, 2, none⟩ = some (.int .i64 x2))
          (first | exact T2.out.2.cells | exact T1.out.2.cells | exact TC.out.2.cells | go_keep)
          (first
            | (go_at_call 13; refine (HS.out _ ?h1).mono ?_; (case h1 => first | exact TC.out | exact ⟨TC.out.1.below (pw_below_drewN (Below.refl _ _) 1), TC.out.2⟩); rintro e w1 ⟨rfl, T1⟩)
            | (go_at_call 17; refine (HR.out _ ?h2).mono ?_; (case h2 => first | exact T1.out | exact ⟨T1.out.1.below (pw_below_drewN (Below.refl _ _) 1), T1.out.2⟩); rintro e w2 ⟨rfl, T2⟩))
        go_wp2_with (first
          | (go_at_call 16; refine (tnext1 T2.out.1).mono ?_; rintro e w3 ⟨rfl, rfl⟩)
          | (go_at_call 22; refine (tnext2 T2.out.1 HPP.out).mono ?_; rintro e w4 ⟨rfl, T4⟩; obtain ⟨A4, c4, hsl⟩ := T4.out.slice HPP.out))
        go_quiet ((go_at_call 15; exact Calls.quiet_of_same (len_st (T4.out.st.on (pw_below_drewN (Below.refl _ _) _)))))
        go_wp2
        go_roundw
        case rel => exact ⟨k + 1, _, _, by omega, by simp, Lib.hid (T4.out.below (pw_below_drewN (Below.refl _ _) _)), HPP⟩
        case measure => simp [intOf]; omega
      · by_cases k1 : x0 = 1
        · subst k1
          go_wp2_with ((with_reducible refine gate_dst (N := 28) rfl ?_); refine load_cells rfl rfl (ad := ad.add (k * 3)) (cs := [.int .i64 1, .int .i64 x1, .int .i64 x2]) ?hx Try.underlying42 rfl (by kernel_rfl) HC.out ?_; (case hx => first | rfl | (go_simp; done) | (go_simp; rfl)))
          have TC : Hid (Trio w (wr.alloc (.cells #[.int .i64 1, .int .i64 x1, .int .i64 x2] 42 (0, 0))) t l r m ∧ Cel (wr.alloc (.cells #[.int .i64 1, .int .i64 x1, .int .i64 x2] 42 (0, 0))) wr.heap.size 1 x1 x2) := Lib.hid ⟨T.out.below (below_alloc (Below.refl _ _) _), blk_new wr _⟩
          clear T
          generalize wr.alloc (.cells #[.int .i64 1, .int .i64 x1, .int .i64 x2] 42 (0, 0)) = W at TC ⊢
          generalize wr.heap.size = b at TC ⊢
          obtain ⟨e0, he0⟩ : ∃ e0, dropE l x1 = e0 := ⟨_, rfl⟩
          have HS := Lib.hid (fun W (h : Trio w W t l r m ∧ Cel W b 1 x1 x2) => tdrop1 h x1)
          have hpair := drop_pair TC.out.1.st.good HP.out x1
          rw [he0] at HS
          have HR := Lib.hid (fun W (h : Trio w W t (rem l x1) r m ∧ Cel W b 1 x1 x2) => tdrop2 h x1 HML.out e0 (by rw [← hpair.1, he0]))
          have HPP : Hid ((rem l x1).Perm (flt m x1)) := Lib.hid hpair.2
          clear hpair he0 HP HML
          go_region_held3 (fun w' => w'.cell? ⟨b, 0, none⟩ = some (.int .i64 1) ∧ w'.cell? ⟨b, 1, none⟩ = some (.int .i64 x1) ∧ w'.cell? ⟨b, 2, none⟩ = some (.int .i64 x2))
            (first | exact T2.out.2.cells | exact T1.out.2.cells | exact TC.out.2.cells | go_keep)
            (first
              | (go_at_call 18; refine (HS.out _ ?h1).mono ?_; (case h1 => first | exact TC.out | exact ⟨TC.out.1.below (pw_below_drewN (Below.refl _ _) 1), TC.out.2⟩); rintro e w1 ⟨rfl, T1⟩)
              | (go_at_call 19; refine (HR.out _ ?h2).mono ?_; (case h2 => first | exact T1.out | exact ⟨T1.out.1.below (pw_below_drewN (Below.refl _ _) 1), T1.out.2⟩); rintro e w2 ⟨rfl, T2⟩))
          go_wp2_with (first
            | (go_at_call 16; refine (tnext1 T2.out.1).mono ?_; rintro e w3 ⟨rfl, rfl⟩)
            | (go_at_call 22; refine (tnext2 T2.out.1 HPP.out).mono ?_; rintro e w4 ⟨rfl, T4⟩; obtain ⟨A4, c4, hsl⟩ := T4.out.slice HPP.out))
          go_quiet ((go_at_call 15; exact Calls.quiet_of_same (len_st (T4.out.st.on (pw_below_drewN (Below.refl _ _) _)))))
          go_wp2
          go_roundw
          case rel => exact ⟨k + 1, _, _, by omega, by simp, Lib.hid (T4.out.below (pw_below_drewN (Below.refl _ _) _)), HPP⟩
          case measure => simp [intOf]; omega
        · by_cases k2 : x0 = 2
          · subst k2
            go_wp2_with ((with_reducible refine gate_dst (N := 28) rfl ?_); refine load_cells rfl rfl (ad := ad.add (k * 3)) (cs := [.int .i64 2, .int .i64 x1, .int .i64 x2]) ?hx Try.underlying42 rfl (by kernel_rfl) HC.out ?_; (case hx => first | rfl | (go_simp; done) | (go_simp; rfl)))
            have TC : Hid (Trio w (wr.alloc (.cells #[.int .i64 2, .int .i64 x1, .int .i64 x2] 42 (0, 0))) t l r m ∧ Cel (wr.alloc (.cells #[.int .i64 2, .int .i64 x1, .int .i64 x2] 42 (0, 0))) wr.heap.size 2 x1 x2) := Lib.hid ⟨T.out.below (below_alloc (Below.refl _ _) _), blk_new wr _⟩
            clear T
            generalize wr.alloc (.cells #[.int .i64 2, .int .i64 x1, .int .i64 x2] 42 (0, 0)) = W at TC ⊢
            generalize wr.heap.size = b at TC ⊢
            obtain ⟨n, hn⟩ : ∃ n, (l.takeWhile (due x1)).length = n := ⟨_, rfl⟩
            have HN : Hid (n ≤ 4096) := Lib.hid (by have := TC.out.1.st.len; have := List.Sublist.length_le (List.takeWhile_sublist (l := l) (due x1)); omega)
            have HS := Lib.hid (fun W (h : Trio w W t l r m ∧ Cel W b 2 x1 x2) => tdue1 h x1 n hn)
            have HR := Lib.hid (fun W A1 c1 (h : Trio w W t (l.dropWhile (due x1)) r m ∧ Cel W b 2 x1 x2) (q : Rn W r A1 n c1 ((l.takeWhile (due x1)).map (·.1))) => tdue2 (A1 := A1) (c1 := c1) h q TC.out.1.st.good TC.out.1.st.len HP.out x1 hn)
            clear hn HML
            go_region_held3 (fun w' => w'.cell? ⟨b, 0, none⟩ = some (.int .i64 2) ∧ w'.cell? ⟨b, 1, none⟩ = some (.int .i64 x1) ∧ w'.cell? ⟨b, 2, none⟩ = some (.int .i64 x2))
              (first | exact TC.out.2.cells | exact T1.out.2.cells | exact T2.out.2.cells | exact (pw_cells_below HW3.out T2.out.2) | go_keep)
              (first
                | (go_at_call 14; refine (HS.out _ ?h1).mono ?_; (case h1 => first | exact TC.out | exact ⟨TC.out.1.below (pw_below_drewN (Below.refl _ _) 1), TC.out.2⟩); rintro e w1 ⟨A1, c1, rfl, T1, Q1⟩)
                | (go_at_call 21; refine (HR.out _ A1 c1 ?h2 ?h3).mono ?_; (case h2 => first | exact T1.out | exact ⟨T1.out.1.below (pw_below_drewN (Below.refl _ _) 1), T1.out.2⟩); (case h3 => exact Q1.out); rintro e w2 ⟨A2, c2, m', rfl, HPP, T2, Q2, Q3⟩)
                | (go_at_call 20; refine (tsame Q2.out Q3.out HN.out).mono ?_; rintro e w3 ⟨rfl, HW3⟩))
            go_wp2_with (first
              | (go_at_call 16; refine (tnext1 (T2.out.1.below HW3.out)).mono ?_; rintro e w3 ⟨rfl, rfl⟩)
              | (go_at_call 22; refine (tnext2 (T2.out.1.below HW3.out) HPP.out).mono ?_; rintro e w4 ⟨rfl, T4⟩; obtain ⟨A4, c4, hsl⟩ := T4.out.slice HPP.out))
            go_quiet ((go_at_call 15; exact Calls.quiet_of_same (len_st (T4.out.st.on (pw_below_drewN (Below.refl _ _) _)))))
            go_wp2
            go_roundw
            case rel => exact ⟨k + 1, _, _, by omega, by simp, Lib.hid (T4.out.below (pw_below_drewN (Below.refl _ _) _)), HPP⟩
            case measure => simp [intOf]; omega
          · have d0 : (x0 == 0) = false := beq_eq_false_iff_ne.mpr k0
            have d1 : (x0 == 1) = false := beq_eq_false_iff_ne.mpr k1
            have d2 : (x0 == 2) = false := beq_eq_false_iff_ne.mpr k2
            clear k0 k1 k2
            go_wp2_with ((with_reducible refine gate_dst (N := 28) rfl ?_); refine load_cells rfl rfl (ad := ad.add (k * 3)) (cs := [.int .i64 x0, .int .i64 x1, .int .i64 x2]) ?hx Try.underlying42 rfl (by kernel_rfl) HC.out ?_; (case hx => first | rfl | (go_simp; done) | (go_simp; rfl)))
            have TC : Hid (Trio w (wr.alloc (.cells #[.int .i64 x0, .int .i64 x1, .int .i64 x2] 42 (0, 0))) t l r m ∧ Cel (wr.alloc (.cells #[.int .i64 x0, .int .i64 x1, .int .i64 x2] 42 (0, 0))) wr.heap.size x0 x1 x2) := Lib.hid ⟨T.out.below (below_alloc (Below.refl _ _) _), blk_new wr _⟩
            clear T
            generalize wr.alloc (.cells #[.int .i64 x0, .int .i64 x1, .int .i64 x2] 42 (0, 0)) = W at TC ⊢
            generalize wr.heap.size = b at TC ⊢
            go_wp2_with (first
              | (go_at_call 16; refine (tnext1 TC.out.1).mono ?_; rintro e w3 ⟨rfl, rfl⟩)
              | (go_at_call 22; refine (tnext2 TC.out.1 HP.out).mono ?_; rintro e w4 ⟨rfl, T4⟩; obtain ⟨A4, c4, hsl⟩ := T4.out.slice HP.out))
            go_quiet ((go_at_call 15; exact Calls.quiet_of_same (len_st (T4.out.st.on (pw_below_drewN (Below.refl _ _) _)))))
            go_wp2
            go_roundw
            case rel => exact ⟨k + 1, _, _, by omega, by simp, Lib.hid (T4.out.below (pw_below_drewN (Below.refl _ _) _)), HP⟩
            case measure => simp [intOf]; omega
    · obtain rfl : k = l0.length := by omega
      go_wp2_with (first
        | (go_at_call 16; refine (Next_nil _).mono ?_; rintro e w3 ⟨rfl, rfl⟩)
        | (go_at_call 13; refine (Set_nil _ _ _).mono ?_; rintro e w4 ⟨rfl, hb4⟩; have HB4 := Lib.hid hb4; clear hb4)
        | (go_at_call 18; refine (Drop_nil _ _).mono ?_; rintro e w5 ⟨rfl, hb5⟩; have HB5 := Lib.hid hb5; clear hb5)
        | (go_at_call 14; refine (Due_nil _ _).mono ?_; rintro e w6 ⟨rfl, hb6⟩; have HB6 := Lib.hid hb6; clear hb6)
        | (go_at_call 15; refine (Len_nil _).mono ?_; rintro e w7 ⟨rfl, rfl⟩))
      go_ret
      exact ⟨rfl, (((T.out.below HB4.out).below HB5.out).below HB6.out).st.below⟩
end Go.Proofs.Ytcopnddmkmgihaa.Ak
