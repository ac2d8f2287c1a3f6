/- member: Near: the walk. -/
import Derived.Test.YtcopnddmkmgihaaMw
namespace Go.Proofs.Ytcopnddmkmgihaa.Mb
open Go.RowKit Go.Maps Go.Sort Go.Shelf Go.ChangeMaps Go.MapKept Go.Proofs.YtcopnddmkmgihaaW.PrintWords Go.Proofs.YtcopnddmkmgihaaW.PrintLast Go.Proofs.YtcopnddmkmgihaaW.PrintMore Go.Proofs.YtcopnddmkmgihaaEv Go.Proofs.YtcopnddmkmgihaaRx
set_option linter.unusedVariables false
set_option linter.unusedSimpArgs false
theorem sortsA (m : Nat) : AnyZI.SortsIn Try.prog Try.sortedA_ren Fence.wide m :=
  ⟨fun blk off cap ss W hH hblk hsz => callsIn_wide.2 (AnyM.slices_Sort_int Try.sortA blk off cap ss W hH hblk hsz),
   fun p cap W => callsIn_wide.2 (AnyM.slices_Sort_int_none Try.sortA p cap W)⟩
set_option maxHeartbeats 1000000 in
theorem Near_calls (w : World) (t b : Nat) (f : FT) (h : Tab w t b f) :
    Calls Try.prog 30 #[.pointer (some ⟨t, 0, none⟩)] w fun e w' => ∃ v, e = .returned v ∧ Hid (w'.ownsRow w.heap.size 3 1 v (nums f).length ((nums f).map (Value.int .i64))) ∧ Hid (Below w.heap.size w w') := by
  have c0 : w.cell? ⟨t, 0, none⟩ = some (.map (some b)) := blk_cell h.blk 0
  obtain ⟨D, hown, hab⟩ := h.map
  have hszD := size_ab hown Try.underlying3 hab
  have hle := nums_length f
  have hkp := keys_perm hown Try.underlying3 hab
  refine (callsIn_wide (n := 6)).1 ?_
  have hbl := hown.lt
  have hseq : SeqGives Fence.wide 2 Try.prog 54 #[.pointer (some ⟨w.heap.size, 0, none⟩)] encZ (fun ss => ss.Perm (intKeys D)) (Maps.size D) (w.alloc (.cells #[.map (some b)] 76)) :=
    AnyZI.keys_gives (ρ := Try.keysA_ren) { Try.keysA with } Fence.wide _ trivial rfl (by omega) w.heap.size b 48 D _ (by simp) (by simp) (by
      obtain ⟨es, clock, hb, Ft, hs, hD⟩ := hown
      exact ⟨es, clock, (Below.heap_alloc _ _ b hbl).trans hb, Ft, hs, hD⟩)
  have cK : ∀ mb W, CallsIn Fence.wide 5 Try.prog 45 #[.map mb] W fun e w' => e = .returned (.func (.func 54) #[] #[.pointer (some ⟨W.heap.size, 0, none⟩)]) ∧ w' = W.alloc (.cells #[.map mb] 76) := fun mb W => AnyZI.keys_in Try.keysA Fence.wide 5 trivial rfl mb W
  have cS := AnyZI.sorted_in Try.sortedA Fence.wide 5 trivial trivial trivial trivial rfl (by omega) (sortsA _) (enters_of Try.func42 (by kernel_rfl) rfl) 54 #[.pointer (some ⟨w.heap.size, 0, none⟩)] trivial (enters_of Try.func54 (by kernel_rfl) rfl) _ _ (by unfold maxLen; omega) (by omega) _ hseq
  change CallsIn _ _ Try.prog 44 _ _ _ at cS
  have hfK : Fence.wide.fn 45 := trivial
  have hfS : Fence.wide.fn 44 := trivial
  refine callsIn_of_wp Try.func30 rfl trivial ?_ rfl
  simp only [Try.ntmps30, List.size_toArray, List.length_cons, List.length_nil, Nat.reduceAdd, Nat.reduceSub, Array.replicate_succ, Array.replicate_zero, List.push_toArray, List.append_toArray, List.nil_append, List.cons_append]
  clear hszD hle
  have HKP := Lib.hid hkp
  clear hkp
  gi_wp2_with (first
    | (gi_at_call 45; refine (cK _ _).mono ?_; rintro e w' ⟨rfl, rfl⟩)
    | (gi_at_call 44; refine cS.mono ?_; rintro e w' ⟨v, ss, rfl, hS, hrow, hnil, hb⟩))
  go_ret
  have hp : ss.Perm (nums f) := hS.trans HKP.out.symm
  have e1 : ss.mergeSort (fun x y => decide (x ≤ y)) = nums f := nums_sorted f hp
  rw [e1, hp.length_eq] at hrow
  exact ⟨v, rfl, Lib.hid (ownsRow_base_a hrow (by simp)), Lib.hid (((Below.refl _ w).alloc (Nat.le_refl _) _).trans (hb.mono (by simp)))⟩
end Go.Proofs.Ytcopnddmkmgihaa.Mb
