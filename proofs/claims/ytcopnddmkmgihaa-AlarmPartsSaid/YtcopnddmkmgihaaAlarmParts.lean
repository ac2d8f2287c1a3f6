/- AlarmParts: two tables know nothing of one another: the walk. -/
import Derived.Test.YtcopnddmkmgihaaAw
namespace Go.Proofs.Ytcopnddmkmgihaa.Ak
open Go.RowKit Go.Proofs.YtcopnddmkmgihaaW.PrintWords Go.Proofs.YtcopnddmkmgihaaW.PrintLast Go.Proofs.YtcopnddmkmgihaaW.PrintMore Go.Proofs.YtcopnddmkmgihaaEv
/-- Two tables of the law's own. -/
structure Two (w0 w : World) (t : Nat) (l : List (Int × Int)) (o : Nat) (m : List (Int × Int)) : Prop where
  tab : ∃ v u, Tab w t v l ∧ Tab w o u m ∧ (∀ k, Ft t v k → w0.heap.size ≤ k) ∧ (∀ k, Ft o u k → w0.heap.size ≤ k) ∧ ∀ k, Ft t v k → ¬ Ft o u k
  good : Good l
  len : l.length ≤ 64
  good2 : Good m
  len2 : m.length ≤ 64
  below : Below w0.heap.size w0 w
theorem Two.swap {w0 w : World} {t : Nat} {l : List (Int × Int)} {o : Nat} {m : List (Int × Int)} (h : Two w0 w t l o m) : Two w0 w o m t l := by
  obtain ⟨v, u, h1, h2, h3, h4, h5⟩ := h.tab
  exact ⟨⟨u, v, h2, h1, h4, h3, fun k q r => h5 k r q⟩, h.good2, h.len2, h.good, h.len, h.below⟩
theorem two_new {w0 w w1 : World} {t o : Nat} {l : List (Int × Int)} (h : St w0 w t l) (ht : Tab w1 o (.slice none 0 0) []) (ho : o = w.heap.size) (hb : Below w.heap.size w w1) : Two w0 w1 t l o [] := by
  obtain ⟨v, h1, h2⟩ := h.tab
  refine ⟨⟨v, _, h1.below hb, ht, h2, fun k hk => ?_, fun k hk hk2 => ?_⟩, h.good, h.len, good_nil, by simp, h.below.trans (hb.mono h.below.size)⟩
  · rcases hk with rfl | hk
    · rw [ho]; exact h.below.size
    · cases hk
  · have := h1.ft_lt k hk
    rcases hk2 with rfl | hk2
    · omega
    · cases hk2
theorem set_two {w0 w : World} {t : Nat} {l : List (Int × Int)} {o : Nat} {m : List (Int × Int)} (h : Two w0 w t l o m) (id at_ r : Int) (l' : List (Int × Int)) (e1 : setL l id at_ = (r, l')) :
    Calls Try.prog 13 #[.pointer (some ⟨t, 0, none⟩), .int .i64 id, .int .i64 at_] w fun e w' => e = .returned (.int .i64 r) ∧ Hid (Two w0 w' t l' o m) := by
  obtain ⟨v, u, h1, h2, h3, h4, h5⟩ := h.tab
  refine (Set_calls w t v l h1 h.good.ord id at_ h.len).mono ?_
  rintro e w' ⟨v', rfl, ht, hc, hloc⟩
  have g1 := good_set h.good id at_
  have g2 := set_length id at_ h.len
  rw [e1] at ht g1 g2 ⊢
  have key : ∀ k, Ft t v' k → Ft t v k ∨ w.heap.size ≤ k := by
    intro k hk
    rcases hk with rfl | hk
    · exact .inl (.inl rfl)
    · rcases hloc with e | ⟨b, e, hb⟩
      · exact .inl (.inr (e.symm.trans hk))
      · rw [e] at hk; injection hk with hk; right; omega
  refine ⟨rfl, Lib.hid ⟨⟨v', u, ht, h2.keep hc (fun k hk q => h5 k q hk), fun k hk => ?_, h4, fun k hk hk2 => ?_⟩, g1, g2, h.good2, h.len2, Chg.below h.below hc h.below.size (fun k hk q => by have := h3 k q; omega)⟩⟩
  · rcases key k hk with q | q
    · exact h3 k q
    · exact Nat.le_trans h.below.size q
  · rcases key k hk with q | q
    · exact h5 k q hk2
    · have := h2.ft_lt k hk2; omega
theorem due_two {w0 w : World} {t : Nat} {l : List (Int × Int)} {o : Nat} {m : List (Int × Int)} (h : Two w0 w t l o m) (now : Int) (ys rest : List (Int × Int)) (n : Nat) (hn : ys.length = n) (e1 : l.takeWhile (due now) = ys) (e2 : l.dropWhile (due now) = rest) :
    Calls Try.prog 14 #[.pointer (some ⟨t, 0, none⟩), .int .i64 now] w fun e w' => ∃ A c, e = .returned (.slice A n c) ∧ Hid (∀ j (hj : j < ys.length), ∃ g, A = some ⟨g, 0, none⟩ ∧ w'.cell? ⟨g, j, none⟩ = some (.int .i64 ys[j].1)) ∧ Hid (Two w0 w' t rest o m) := by
  obtain ⟨v, u, h1, h2, h3, h4, h5⟩ := h.tab
  refine (Due_calls w t v l h1 now h.len).mono ?_
  rintro e w' ⟨v', r, rfl, hr, ht, hc, hown⟩
  have g1 := good_drop h.good now
  have g2 := Nat.le_trans (List.Sublist.length_le (List.dropWhile_sublist (l := l) (due now))) h.len
  rw [e1] at hr
  rw [e2] at ht g1 g2
  rw [show ys.map (fun x => Value.int .i64 x.1) = (ys.map (·.1)).map (.int .i64) by rw [List.map_map]; rfl] at hr
  obtain ⟨hl, A, c, rfl, hcc⟩ := row_ints hr
  have key : ∀ k, Ft t v' k → Ft t v k := fun k hk => hk.imp (fun z => z) (fun z => hown.symm.trans z)
  refine ⟨A, c, by rw [hn], Lib.hid (fun j hj => ?_), Lib.hid ⟨⟨v', u, ht, h2.keep hc (fun k hk q => h5 k q hk), fun k hk => h3 k (key k hk), h4, fun k hk => h5 k (key k hk)⟩, g1, g2, h.good2, h.len2, Chg.below h.below hc h.below.size (fun k hk q => by have := h3 k q; omega)⟩⟩
  obtain ⟨g, hg, hcell⟩ := hcc j (by rw [List.length_map]; exact hj)
  rw [List.getElem_map] at hcell
  exact ⟨g, hg, hcell⟩
theorem next_two {w0 w : World} {t : Nat} {l : List (Int × Int)} {o : Nat} {m : List (Int × Int)} (h : Two w0 w t l o m) (n : Int) (b : Bool) (e1 : next l = (n, b)) : Calls Try.prog 16 #[.pointer (some ⟨t, 0, none⟩)] w fun e w' => e = .returned (.tuple #[.int .i64 n, .bool b]) ∧ w' = w := by
  obtain ⟨v, u, h1, h2, h3, h4, h5⟩ := h.tab
  have := Next_calls w t v l h1 (by have := h.len; omega)
  rw [e1] at this
  exact this
theorem len_two {w0 w : World} {t : Nat} {l : List (Int × Int)} {o : Nat} {m : List (Int × Int)} (h : Two w0 w t l o m) (n : Int) (e1 : (l.length : Int) = n) : Calls Try.prog 15 #[.pointer (some ⟨t, 0, none⟩)] w fun e w' => e = .returned (.int .i64 n) ∧ w' = w := by
  obtain ⟨v, u, h1, h2, h3, h4, h5⟩ := h.tab
  have := Len_calls w t v l h1
  rw [e1] at this
  exact this
theorem new_two {w0 w : World} {t : Nat} {l : List (Int × Int)} (h : St w0 w t l) : Calls Try.prog 12 #[] w fun e w' => ∃ o, e = .returned (.pointer (some ⟨o, 0, none⟩)) ∧ Hid (Two w0 w' t l o []) := by
  refine (New_calls w).mono ?_
  rintro e w' ⟨rfl, ht, hb, _⟩
  exact ⟨_, rfl, Lib.hid (two_new h ht rfl hb)⟩
set_option maxRecDepth 100000 in
set_option maxHeartbeats 8000000 in
theorem clepsydralaw09_AlarmParts.calls (a b c : Int) (w : World) : Calls Try.prog 4 #[.int .i64 a, .int .i64 b, .int .i64 c] w fun e w' => e = .returned (.bool true) ∧ Below w.heap.size w w' := by
  have e1 : setL [] 7 a = (0, [(7, a)]) := rfl
  have e2 : setL [(7, a)] 7 b = (0, [(7, b)]) := rfl
  have e3 : setL [] 7 c = (0, [(7, c)]) := rfl
  have e4 : List.takeWhile (due b) [(7, b)] = [(7, b)] := by simp [due]
  have e5 : List.dropWhile (due b) [(7, b)] = [] := by simp [due]
  have E1 := Lib.hid e1
  have E2 := Lib.hid e2
  have E3 := Lib.hid e3
  have E4 := Lib.hid e4
  have E5 := Lib.hid e5
  clear e1 e2 e3 e4 e5
  go_enter Try.func4, Try.ntmps4
  go_wp2_with (first
    | (go_at_call 11; (with_reducible refine (alive_calls _).mono ?_); rintro e wa ⟨rfl, HB⟩)
    | (go_at_call 12; (with_reducible refine (new_two S0.out).mono ?_); rintro e w2 ⟨o, rfl, T0⟩)
    | (go_at_call 12; (with_reducible refine (new_to w _ HB).mono ?_); rintro e w1 ⟨t, rfl, S0, B0⟩)
    | (go_at_call 13; (with_reducible refine (set_two T0.out 7 a 0 [(7, a)] E1.out).mono ?_); rintro e w3 ⟨rfl, T1⟩)
    | (go_at_call 13; (with_reducible refine (set_two T1.out 7 b 0 [(7, b)] E2.out).mono ?_); rintro e w4 ⟨rfl, T2⟩)
    | (go_at_call 13; (with_reducible refine (set_two T2.out.swap 7 c 0 [(7, c)] E3.out).mono ?_); rintro e w5 ⟨rfl, T3⟩)
    | (go_at_call 16; (with_reducible refine (next_two T3.out.swap b true rfl).mono ?_); rintro e w6 ⟨rfl, rfl⟩)
    | (go_at_call 14; (with_reducible refine (due_two T3.out.swap b [(7, b)] [] 1 rfl E4.out E5.out).mono ?_); rintro e w7 ⟨A, q, rfl, HC, T4⟩; obtain ⟨g, rfl, hc0⟩ := HC.out 0 Nat.one_pos)
    | (go_at_call 15; (with_reducible refine (len_two T4.out 0 rfl).mono ?_); rintro e w8 ⟨rfl, rfl⟩)
    | (go_at_call 15; (with_reducible refine (len_two T4.out.swap 1 rfl).mono ?_); rintro e w9 ⟨rfl, rfl⟩)
    | (go_at_call 14; (with_reducible refine (due_two T4.out a [] [] 0 rfl rfl rfl).mono ?_); rintro e w10 ⟨A2, q2, rfl, HC2, T5⟩))
  go_ret
  exact ⟨rfl, T5.out.below⟩
end Go.Proofs.Ytcopnddmkmgihaa.Ak
