/- trim.Agreed at strings: the walk over its map of counts, and its contract in the form in which the other functions call it. -/
import Derived.Maps.OwnOps
import Derived.Maps.Views
import Derived.WalkKit
import Derived.Test.YtdabedknidkimaaDoorEv
import Derived.Test.YtdabedknidkimaaDoorAps
import Derived.StringKeys
namespace Go.Proofs.YtdabedknidkimaaDoor.Ags
open Go.RowKit Go.Maps Go.WideMaps Go.Proofs.YtdabedknidkimaaDoorW.PrintWords Go.Proofs.YtdabedknidkimaaDoorW.PrintLast Go.Proofs.YtdabedknidkimaaDoorW.PrintMore Go.Proofs.YtdabedknidkimaaDoorEv Go.Proofs.YtdabedknidkimaaDoor.Aps

theorem law9 : Keyed Tryd.prog 9 := string_keyed Tryd.underlying9
theorem zero3 (w : World) : (zeroValue 3).run Tryd.prog w = .ok (.int .i64 0) w := by kernel_rfl
/-- The map's datum tells of each number how many of zs say it. -/
def Tells (D : DataW Unit) (zs : List ByteArray) : Prop := IsMap D ∧ ∀ x : ByteArray, D.atKey (.string x.data.toList) (.lit (.int .i64 0)) = .lit (.int .i64 (cnt zs x : Int))
theorem tells_nil : Tells (.map []) [] := ⟨⟨[], rfl⟩, fun _ => rfl⟩
theorem tells_put {D : DataW Unit} {zs : List ByteArray} {k : Nat} (hk : k < zs.length) (hl : zs.length < 9223372036854775807) (h : Tells D (zs.take k)) {c : Int} (hc : D.atKey (.string (zs[k]?.getD ByteArray.empty).data.toList) (.lit (.int .i64 0)) = .lit (.int .i64 c)) :
    Tells (D.put (.string (zs[k]?.getD ByteArray.empty).data.toList) (.lit (.int .i64 (wrap64 (c + 1))))) (zs.take (k + 1)) := by
  have hcc : (cnt (zs.take k) (zs[k]?.getD ByteArray.empty) : Int) = c := by
    have := (h.2 _).symm.trans hc
    simpa using this
  have hle : (cnt (zs.take k) (zs[k]?.getD ByteArray.empty)) ≤ k := Nat.le_trans (cnt_le _ _) (by rw [List.length_take]; omega)
  refine ⟨h.1.put _ _, fun x => ?_⟩
  rw [cnt_take_succ zs k hk]
  by_cases hx : zs[k]?.getD ByteArray.empty = x
  · subst hx
    rw [atKey_put_same h.1 (k := .string (zs[k]?.getD ByteArray.empty).data.toList) (show True from trivial), if_pos rfl]
    congr 2
    rw [show wrap64 (c + 1) = c + 1 by unfold wrap64; omega, ← hcc]
    omega
  · rw [atKey_put_other (by intro e; injection e with e; exact hx (ByteArray.ext (Array.toList_inj.1 e)).symm), if_neg hx, h.2 x]
    rfl

set_option maxRecDepth 100000 in
set_option maxHeartbeats 4000000 in
theorem agreed_nil (f : Int) (a : Option Addr) (cap : Nat) (w : World) :
    Calls Tryd.prog 20 #[.int .i64 f, .slice a 0 cap] w fun e w' => e = .returned (.tuple #[.string ByteArray.empty, .bool false]) ∧ Below w.heap.size w w' := by
  have hmm := @run_makeMap Tryd.prog
  go_enter Tryd.func20, Tryd.ntmps20
  go_wp2
  refine wp_loop_rounds 1 ?_
  rw [rounds_succ]
  go_wp2
  refine wp_loop_rounds 1 ?_
  rw [rounds_succ]
  go_wp2
  go_ret2
  exact ⟨rfl, (Below.refl _ _).alloc (Nat.le_refl _) _⟩

set_option maxRecDepth 100000 in
set_option maxHeartbeats 4000000 in
theorem agreed_some (f : Int) (ad : Addr) (cap : Nat) (zs : List ByteArray) (w : World) (hreach : zs.length * 16 ≤ 140737488351232) (hb : ad.block < w.heap.size)
    (hc : ∀ j, j < zs.length → w.cell? (ad.add j) = some (.string (zs[j]?.getD ByteArray.empty))) (hwz : ∀ j, j < zs.length → (zs[j]?.getD ByteArray.empty).size ≤ maxLen) :
    Calls Tryd.prog 20 #[.int .i64 f, .slice (some ad) zs.length cap] w fun e w' => e = .returned (.tuple #[.string (agreed f zs).1, .bool (agreed f zs).2]) ∧ Below w.heap.size w w' := by
  have hmm := @run_makeMap Tryd.prog
  have hbest := pick_range f zs
  go_enter Tryd.func20, Tryd.ntmps20
  go_wp2
  go_loopw [18] (fun i wr => ∃ k : Nat, ∃ D, k ≤ zs.length ∧ i = .int .i64 k ∧ wr.ownsMap Tryd.prog 9 (plainElem (H := Unit) Tryd.prog 3) w.heap.size k D ∧ Tells D (zs.take k) ∧ Below w.heap.size w wr)
    (fun i _ => zs.length - (intOf i).toNat)
  case atStart => exact ⟨0, _, Nat.zero_le _, rfl, World.ownsMap_made _ _ _ _, tells_nil, (Below.refl _ _).alloc (Nat.le_refl _) _⟩
  case round =>
    obtain ⟨k, D, hk, rfl, hown, htell, hnx⟩ := hrel
    by_cases hlt : k < zs.length
    · have hput := fun c => tells_put (c := c) hlt (by omega) htell
      have hcx := (hnx.cell (p := ad.add k) (by rw [add_block]; exact hb)).trans (hc k hlt)
      have hwx := hwz k hlt
      obtain ⟨x, hx⟩ : ∃ x, zs[k]?.getD ByteArray.empty = x := ⟨_, rfl⟩
      rw [hx] at hput hcx hwx
      clear hx htell
      go_wp2_with (first
        | (at_lookup; refine wpList_lookup_own_int _ rfl _ _ 56 rfl 9 3 .i64 law9 Tryd.underlying56 Tryd.underlying3 (zero3 _) w.heap.size k D rfl hown _ _ rfl (keyOf_string_mk Tryd.underlying9 hwx) ?_; intro c hat hwc)
        | (at_mapUpdate; refine wpList_mapUpdate_own _ rfl _ _ _ 56 rfl 9 3 law9 Tryd.underlying56 _ w.heap.size k _ rfl hown (by unfold maxLen; omega) _ _ _ rfl rfl (keyOf_string_mk Tryd.underlying9 hwx) _ [] (plainElem_int Tryd.underlying3 (wrap64_wf _)) ?_; intro w1 hown1 hgrow1)
        | go_in)
      go_roundw
      case rel => exact ⟨k + 1, _, by omega, by simp, hown1, hput _ hat, hnx.grown hgrow1 hnx.size (fun j hj => by cases hj; exact Nat.le_refl _)⟩
      case measure => simp [intOf]; omega
    · obtain rfl : k = zs.length := by omega
      rw [List.take_length] at htell
      go_wp2
      go_loopw [9, 10, 29] (fun b n i ws => ∃ j : Nat, j ≤ zs.length ∧ i = .int .i64 j ∧ b = .int .i64 (pick f zs j).1 ∧ n = .int .i64 (pick f zs j).2 ∧ ws.ownsMap Tryd.prog 9 (plainElem (H := Unit) Tryd.prog 3) w.heap.size zs.length D ∧ Below w.heap.size w ws)
        (fun _ _ i _ => zs.length - (intOf i).toNat)
      case atStart => exact ⟨0, Nat.zero_le _, rfl, rfl, rfl, hown, hnx⟩
      case round =>
        obtain ⟨j, hj, rfl, rfl, rfl, hown, hnx⟩ := hrel
        by_cases hlt : j < zs.length
        · have hcx := (hnx.cell (p := ad.add j) (by rw [add_block]; exact hb)).trans (hc j hlt)
          have hwx := hwz j hlt
          have hat0 := htell.2 (zs[j]?.getD ByteArray.empty)
          have hp := pick_succ f zs j
          obtain ⟨x, hx⟩ : ∃ x, zs[j]?.getD ByteArray.empty = x := ⟨_, rfl⟩
          rw [hx] at hcx hwx hat0 hp
          clear hx
          obtain ⟨s, hs⟩ : ∃ s, pick f zs j = s := ⟨_, rfl⟩
          rw [hs] at hp
          obtain ⟨n, hn⟩ : ∃ n : Int, (cnt zs x : Int) = n := ⟨_, rfl⟩
          rw [hn] at hat0 hp
          clear hn
          rw [hs]
          by_cases h1 : f < n
          · by_cases h2 : s.2 < n
            · rw [if_pos ⟨h1, h2⟩] at hp
              go_wp2_with (first
                | (at_lookup; refine wpList_lookup_own_int _ rfl _ _ 56 rfl 9 3 .i64 law9 Tryd.underlying56 Tryd.underlying3 (zero3 _) w.heap.size _ D rfl hown _ _ rfl (keyOf_string_mk Tryd.underlying9 hwx) ?_; intro c hat hwc; obtain rfl : n = c := by simpa using hat0.symm.trans hat)
                | go_in)
              go_roundw
              case rel => exact ⟨j + 1, by omega, by simp, by rw [hp], by rw [hp], hown, hnx⟩
              case measure => simp [intOf]; omega
            · rw [if_neg (fun q => h2 q.2)] at hp
              go_wp2_with (first
                | (at_lookup; refine wpList_lookup_own_int _ rfl _ _ 56 rfl 9 3 .i64 law9 Tryd.underlying56 Tryd.underlying3 (zero3 _) w.heap.size _ D rfl hown _ _ rfl (keyOf_string_mk Tryd.underlying9 hwx) ?_; intro c hat hwc; obtain rfl : n = c := by simpa using hat0.symm.trans hat)
                | go_in)
              go_roundw
              case rel => exact ⟨j + 1, by omega, by simp, by rw [hp], by rw [hp], hown, hnx⟩
              case measure => simp [intOf]; omega
          · rw [if_neg (fun q => h1 q.1)] at hp
            go_wp2_with (first
              | (at_lookup; refine wpList_lookup_own_int _ rfl _ _ 56 rfl 9 3 .i64 law9 Tryd.underlying56 Tryd.underlying3 (zero3 _) w.heap.size _ D rfl hown _ _ rfl (keyOf_string_mk Tryd.underlying9 hwx) ?_; intro c hat hwc; obtain rfl : n = c := by simpa using hat0.symm.trans hat)
              | go_in)
            go_roundw
            case rel => exact ⟨j + 1, by omega, by simp, by rw [hp], by rw [hp], hown, hnx⟩
            case measure => simp [intOf]; omega
        · obtain rfl : j = zs.length := by omega
          have hag : agreed f zs = if (pick f zs zs.length).1 < 0 then (ByteArray.empty, false) else (zs[(pick f zs zs.length).1.toNat]?.getD ByteArray.empty, true) := rfl
          have hr := pick_range f zs zs.length
          obtain ⟨b, hb0⟩ : ∃ b, (pick f zs zs.length).1 = b := ⟨_, rfl⟩
          rw [hb0] at hr hag ⊢
          by_cases hneg : b < 0
          · rw [if_pos hneg] at hag
            go_wp2
            go_ret2
            refine ⟨?_, hnx⟩; first | rfl | (show _ = Ending.returned (.tuple #[.string (agreed f zs).1, .bool (agreed f zs).2]); rw [hag]; first | done | rfl)
          · rw [if_neg hneg] at hag
            obtain ⟨m, rfl⟩ : ∃ m : Nat, b = m := ⟨b.toNat, by omega⟩
            have hm : m < zs.length := by omega
            have hcx := (hnx.cell (p := ad.add m) (by rw [add_block]; exact hb)).trans (hc m hm)
            rw [Int.toNat_natCast] at hag
            obtain ⟨x, hx⟩ : ∃ x, zs[m]?.getD ByteArray.empty = x := ⟨_, rfl⟩
            rw [hx] at hcx hag
            clear hx
            go_wp2
            go_ret2
            refine ⟨?_, hnx⟩; first | rfl | (show _ = Ending.returned (.tuple #[.string (agreed f zs).1, .bool (agreed f zs).2]); rw [hag]; first | done | rfl)

theorem agreed_calls (f : Int) (A1 : Option Addr) (c1 : Nat) (l1 : List ByteArray) (w : World) (hr1 : Kd.C Kd.string w A1 l1.length l1) (hl : l1.length * 16 ≤ 140737488351232) (hw : ∀ x ∈ l1, x.size ≤ maxLen) :
    Calls Tryd.prog 20 #[.int .i64 f, .slice A1 l1.length c1] w fun e w' => e = .returned (.tuple #[.string (agreed f l1).1, .bool (agreed f l1).2]) ∧ Below w.heap.size w w' := by
  cases hn : l1.length with
  | zero =>
    have : l1 = [] := List.eq_nil_of_length_eq_zero hn
    subst this
    exact agreed_nil f A1 c1 w
  | succ n =>
    have h0 : 0 < l1.length := by omega
    rw [← hn]
    obtain ⟨_, _, hp⟩ := hr1
    obtain ⟨ad, rfl, hrow⟩ := hp h0
    have hc : ∀ j, j < l1.length → w.cell? (ad.add j) = some (.string (l1[j]?.getD ByteArray.empty)) := fun j hj => by
      obtain ⟨c, _, hK, hcc⟩ := hrow j _ (List.getElem?_eq_getElem hj)
      have hK' : c = [Value.string (l1[j])] := hK
      have := hcc 0 (.string (l1[j])) (by rw [hK']; rfl)
      rw [List.getElem?_eq_getElem hj]
      simpa [Kd.string, Kd.scalar] using this
    have hb := World.block_lt_of_cell? w _ (hc 0 h0)
    rw [add_block] at hb
    exact agreed_some f ad c1 l1 w hl hb hc (fun j hj => by
      rw [List.getElem?_eq_getElem hj]
      exact hw _ (List.getElem_mem hj))
end Go.Proofs.YtdabedknidkimaaDoor.Ags
