/- Texts GateHoldsC, in one file, without what is not needed here. -/
import Derived.Test.YtbmfgcekglgliaaZGateHolds13
namespace Go.Proofs.Ytbmfgcekglgliaa.G
open Go.RowKit Go.Proofs.YtbmfgcekglgliaaW.PrintWords Go.Proofs.YtbmfgcekglgliaaW.PrintLast Go.Proofs.YtbmfgcekglgliaaW.PrintMore Go.Proofs.YtbmfgcekglgliaaPl Go.Proofs.YtbmfgcekglgliaaEm Go.Proofs.YtbmfgcekglgliaaKr Go.Proofs.YtbmfgcekglgliaaRz Go.Proofs.Ytbmfgcekglgliaa.X
set_option linter.unusedVariables false
theorem RowH.tr {w : World} {A : Option Addr} {l : List Hd} (h : RowH w A l) : Tr (fun _ => False) w (fun W => RowH W A l) := by
  intro W' hW k hk
  obtain ⟨ad, e, hc⟩ := h k hk
  refine ⟨ad, e, fun j u hu => ?_⟩
  have h5 := hc j u hu
  have h6 := World.block_lt_of_cell? w _ h5
  have hb := hW _ (fun q => q) h6
  rw [show W'.cell? ((ad.add (k * 15)).add j) = w.cell? ((ad.add (k * 15)).add j) by simp [World.cell?, hb]]
  exact h5
theorem RowT.tr {w : World} {A : Option Addr} {l : List Tl} (h : RowT w A l) : Tr (fun _ => False) w (fun W => RowT W A l) := by
  intro W' hW k hk
  obtain ⟨ad, e, hc⟩ := h k hk
  refine ⟨ad, e, fun j u hu => ?_⟩
  have h5 := hc j u hu
  have h6 := World.block_lt_of_cell? w _ h5
  have hb := hW _ (fun q => q) h6
  rw [show W'.cell? ((ad.add (k * 3)).add j) = w.cell? ((ad.add (k * 3)).add j) by simp [World.cell?, hb]]
  exact h5
def cvT (x : S41) : Tl := ⟨x.f0, x.f1, x.f2⟩
theorem rowT_in {w : World} {A : Option Addr} {l : List S41} (h : Kd.C k41 w A l.length l) : RowT w A (l.map cvT) := by
  intro k hk
  have hkl : k < l.length := by rw [List.length_map] at hk; exact hk
  obtain ⟨ad, c, e, _, hK, hc⟩ := Kd.C_get h z41 k (by omega) (by omega)
  have hg : l.getD (k : Int).toNat z41 = l[k] := by simp [List.getD_eq_getElem?_getD, hkl]
  rw [hg] at hK
  have e2 := k41_open hK
  refine ⟨ad, e, fun j u hu => ?_⟩
  rw [add_add]
  have := hc j u (by rw [e2]; rw [List.getElem_map] at hu; exact hu)
  rw [show (k : Int).toNat = k by omega] at this
  exact this
theorem clepsydralaw22_GateHolds.calls (a0_0 a0_1 a0_2 a0_3 a0_4 a0_5 a0_6 a0_7 a0_8 a0_9 a0_10 a0_11 : Int) (a1_0 a1_1 a1_2 : Int) (a1_3 : Bool) (a1_4 a1_5 : Int) (a1_6 : Bool) (A1_7 : Option Addr) (c1_7 : Nat) (l1_7 : List Lp) (a1_8 a1_9 a1_10 a2 : Int) (A3 : Option Addr) (c3 : Nat) (l3 : List S41) (A4 : Option Addr) (c4 : Nat) (l4 : List Hrd) (a5 : Int) (w : World) (hr1 : Kd.C k82 w A1_7 l1_7.length l1_7) (hc1 : l1_7.length ≤ c1_7) (hr3 : Kd.C k41 w A3 l3.length l3) (hc3 : l3.length ≤ c3) (hr4 : Kd.C k45 w A4 l4.length l4) (hc4 : l4.length ≤ c4) :
    Calls Try.prog 3 #[.agg #[.int .i64 a0_0, .int .i64 a0_1, .int .i64 a0_2, .int .i64 a0_3, .int .i64 a0_4, .int .i64 a0_5, .int .i64 a0_6, .int .i64 a0_7, .int .i64 a0_8, .int .i64 a0_9, .int .i64 a0_10, .int .i64 a0_11], .agg #[.int .i64 a1_0, .int .i64 a1_1, .int .i64 a1_2, .bool a1_3, .int .i64 a1_4, .int .i64 a1_5, .bool a1_6, .slice A1_7 l1_7.length c1_7, .int .i64 a1_8, .int .i64 a1_9, .int .i64 a1_10], .int .i64 a2, .slice A3 l3.length c3, .slice A4 l4.length c4, .int .i64 a5] w fun e w' => e = .returned (.bool true) ∧ Below w.heap.size w w' := by
  obtain ⟨hs, hlen, _, hrow⟩ := rowH_in hr4
  have hm : (l3.map cvT).length = l3.length := List.length_map ..
  have := Holds_calls ⟨a0_0, a0_1, a0_2, a0_3, a0_4, a0_5, a0_6, a0_7, a0_8, a0_9, a0_10, a0_11⟩ ⟨a1_0, a1_1, a1_2, a1_3, a1_4, a1_5, a1_6, l1_7, a1_8, a1_9, a1_10⟩ A1_7 c1_7 a2 a5 (l3.map cvT) A3 c3 hs A4 c4 w (Tr.and (RowT.tr (rowT_in hr3)) (Tr.and (RowH.tr hrow) (Go.Proofs.YtbmfgcekglgliaaEv.Tr.of_C hr1 k82_heap))) (by rw [hlen]; exact hr4.2.1) (by rw [hm]; exact hr3.2.1)
  rw [hlen, hm] at this
  exact this
end Go.Proofs.Ytbmfgcekglgliaa.G
