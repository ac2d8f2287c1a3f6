/- The law VoteKeeps, over all inputs: the row, out of the pure statement and the contract of the call. -/
import Derived.Test.YtdabedknidkimaaDoorRows
import Derived.Test.YtdabedknidkimaaDoorVoteKeeps
import Derived.Test.YtdabedknidkimaaDoorRo
import Derived.WalkKit
import Derived.ProofKit
import Derived.OpenShut
import Derived.ShutString
import Derived.ChangeOld
import Derived.Below
import Derived.SizedLaws
import Derived.Stop.LaidErr
import Derived.Handed
import Derived.LaidLaws
import Derived.LaidHandle
import Derived.LaidMore
import Derived.MakeChecks
import Derived.Lib.LaidTab
import Derived.SevenTiedAt
import Derived.Test.YtdabedknidkimaaDoorTie
import Derived.Test.YtdabedknidkimaaDoorCards
namespace Go.Proofs.YtdabedknidkimaaDoor.voteKeeps
open Go.ChangeShapes Go.WideShapes Go.ChangeAt Go.RowKit Go.Proofs.YtdabedknidkimaaDoorW.PrintWords Go.Proofs.YtdabedknidkimaaDoorRo
open Go.ChangeMaps (open_string shut_string)
set_option linter.unusedVariables false
theorem own : ownKnob Tryd.prog.godebug = none := by kernel_rfl
theorem laidOut : laidOutB Tryd.prog = true := by kernel_rfl
theorem opn37 : Opn Tryd.prog Go.Proofs.YtdabedknidkimaaDoor.X.k37 37 (fun x => ((Lit.int .i64 x.f0).wf = true ∧ (Lit.int .i64 x.f1).wf = true)) := by
  have h := Opn.iso (fun x : Go.Proofs.YtdabedknidkimaaDoor.X.S37 => (x.f0, x.f1)) (fun p => ⟨p.1, p.2⟩) (fun _ => rfl) (Opn.struct Tryd.underlying37 (by kernel_rfl) (OpnF.cons (Opn.int Tryd.underlying3 (by kernel_rfl)) rfl (OpnF.one (Opn.int Tryd.underlying3 (by kernel_rfl)) rfl)))
  exact h
theorem prm0 : Opn Tryd.prog (Kd.pair (Kd.int .i64) (Kd.pair (Kd.int .i64) (Kd.pair (Kd.int .i64) (Kd.pair (Kd.int .i64) (Kd.pair (Kd.int .i64) (Kd.pair (Kd.int .i64) (Kd.pair (Kd.int .i64) (Kd.pair (Kd.int .i64) (Kd.pair (Kd.int .i64) (Kd.pair (Kd.int .i64) (Kd.pair (Kd.int .i64) (Kd.int .i64)))))))))))) 29 (fun x => ((Lit.int .i64 x.1).wf = true ∧ (Lit.int .i64 x.2.1).wf = true ∧ (Lit.int .i64 x.2.2.1).wf = true ∧ (Lit.int .i64 x.2.2.2.1).wf = true ∧ (Lit.int .i64 x.2.2.2.2.1).wf = true ∧ (Lit.int .i64 x.2.2.2.2.2.1).wf = true ∧ (Lit.int .i64 x.2.2.2.2.2.2.1).wf = true ∧ (Lit.int .i64 x.2.2.2.2.2.2.2.1).wf = true ∧ (Lit.int .i64 x.2.2.2.2.2.2.2.2.1).wf = true ∧ (Lit.int .i64 x.2.2.2.2.2.2.2.2.2.1).wf = true ∧ (Lit.int .i64 x.2.2.2.2.2.2.2.2.2.2.1).wf = true ∧ (Lit.int .i64 x.2.2.2.2.2.2.2.2.2.2.2).wf = true)) := by
  have h := (Opn.struct Tryd.underlying29 (by kernel_rfl) (OpnF.cons (Opn.int Tryd.underlying3 (by kernel_rfl)) rfl (OpnF.cons (Opn.int Tryd.underlying3 (by kernel_rfl)) rfl (OpnF.cons (Opn.int Tryd.underlying3 (by kernel_rfl)) rfl (OpnF.cons (Opn.int Tryd.underlying3 (by kernel_rfl)) rfl (OpnF.cons (Opn.int Tryd.underlying3 (by kernel_rfl)) rfl (OpnF.cons (Opn.int Tryd.underlying3 (by kernel_rfl)) rfl (OpnF.cons (Opn.int Tryd.underlying3 (by kernel_rfl)) rfl (OpnF.cons (Opn.int Tryd.underlying3 (by kernel_rfl)) rfl (OpnF.cons (Opn.int Tryd.underlying3 (by kernel_rfl)) rfl (OpnF.cons (Opn.int Tryd.underlying3 (by kernel_rfl)) rfl (OpnF.cons (Opn.int Tryd.underlying3 (by kernel_rfl)) rfl (OpnF.one (Opn.int Tryd.underlying3 (by kernel_rfl)) rfl)))))))))))))
  exact h
theorem prm1 : Opn Tryd.prog (Kd.slice 37 Go.Proofs.YtdabedknidkimaaDoor.X.k37) 22 (fun x => (x.length ≤ maxLen ∧ x.length * 16 ≤ 140737488351232 ∧ ∀ x0_ ∈ x, ((Lit.int .i64 x0_.f0).wf = true ∧ (Lit.int .i64 x0_.f1).wf = true))) := by
  have h := (Opn.slice (B := 16) Tryd.underlying22 (by kernel_rfl) (by kernel_rfl) opn37)
  exact h
theorem prm2 : Opn Tryd.prog (Kd.slice 22 (Kd.slice 37 Go.Proofs.YtdabedknidkimaaDoor.X.k37)) 25 (fun x => (x.length ≤ maxLen ∧ x.length * 24 ≤ 140737488351232 ∧ ∀ x0_ ∈ x, (x0_.length ≤ maxLen ∧ x0_.length * 16 ≤ 140737488351232 ∧ ∀ x1_ ∈ x0_, ((Lit.int .i64 x1_.f0).wf = true ∧ (Lit.int .i64 x1_.f1).wf = true)))) := by
  have h := (Opn.slice (B := 24) Tryd.underlying25 (by kernel_rfl) (by kernel_rfl) (Opn.slice (B := 16) Tryd.underlying22 (by kernel_rfl) (by kernel_rfl) opn37))
  exact h
theorem door_met (os : Os) (args : Array Value) : laidMetH Tryd.prog Rows.voteKeepsRow.laid ((World.doorLaid Tryd.prog 400 os).forCall (fun _ _ => 0) ⟨#[], args, []⟩).memory :=
  laidMetH_of_parts3 (fuel := 80) (laidMet_of_run' 80 (by kernel_rfl) (by kernel_rfl)) (by kernel_rfl) (by kernel_rfl)
theorem dat : (Rows.laid_internal_strconv_uint64pow10 : DataW Unit) = Lib.tabData .u64 Lib.pow10Tab := by kernel_rfl
theorem tt68 : (Tryd.prog.globals[0]?).map (·.type) = some 71 := by kernel_rfl
theorem of_laid {W : World} (h : laidMetH Tryd.prog Rows.voteKeepsRow.laid W) : Vt.Tb W := by
  rw [MakeChecks.laidMetH_plain _ _ _ (by kernel_rfl)] at h
  have h3 := laidMet.tail (laidMet.tail (show laidMet Tryd.prog (_ :: _ :: [("internal/strconv.uint64pow10", Rows.laid_internal_strconv_uint64pow10)]) W from h))
  rw [dat] at h3
  exact Lib.tabIs_of_head Vt.gnum tt68 Tryd.underlying71 Tryd.underlying63 (by kernel_rfl) (by kernel_rfl) h3
set_option maxRecDepth 100000 in
set_option maxHeartbeats 1000000 in
theorem lifted (os : Os) (started : os.Started) (H : Type) (enc : TypeId × Value → H) :
    ReturnsInHanded {} Tryd.checked os 6 .any (fun w args => (Rows.voteKeepsSpec.pre enc Tryd.prog Tryd.f6 Rows.voteKeepsRow.domain false w args ∧ laidMetH Tryd.prog Rows.voteKeepsRow.laid w) ∧ sizedMet enc Tryd.prog Tryd.f6 (OpenSpec.ofChange Rows.voteKeepsSpec) false w args) (Rows.voteKeepsSpec.post enc Tryd.prog Tryd.f6 false true false false) := by
  refine returnsInHanded_of_change_and (C := Tryd.checked) (X := fun w _ => laidMetH Tryd.prog Rows.voteKeepsRow.laid w) (fun _ _ _ hh h => h.of_heap hh) own started (by kernel_rfl) Tryd.func6
    (ChangeSpec.witness_shaped (enc := enc) (C := Tryd.checked) (os := os) (X := fun w _ => laidMetH Tryd.prog Rows.voteKeepsRow.laid w) false (World.doorLaid Tryd.prog 400 os) #[.agg #[.int .i64 0, .int .i64 0, .int .i64 0, .int .i64 0, .int .i64 0, .int .i64 0, .int .i64 0, .int .i64 0, .int .i64 0, .int .i64 0, .int .i64 0, .int .i64 0], .slice none 0 0, .slice none 0 0] 8 rfl (World.shaped_of_RefB (by kernel_rfl) (by kernel_rfl)) (by kernel_rfl) (by kernel_rfl) (by kernel_rfl) (door_met os _)) ?_
  intro W base args ds gs before hval0 hW hcnd hsz0 hL _
  have hsz : (DataW.weightsEach Tryd.prog (Tryd.f6.params.toList ++ Rows.voteKeepsSpec.plain.varTypes Tryd.prog) (ds ++ gs)).all (· ≤ reachBytes) = true := hsz0
  have hval : ∀ (j : Nat) t v, Tryd.f6.params[j]? = some t → args[j]? = some v → Value.okWide Tryd.prog W .any base t v := hval0
  have hW' := hW
  obtain ⟨p, q, hA0, hV, rfl, hfz, hnd⟩ := hW
  have hA : DataW.TrodAll enc Tryd.prog W 0 (fun _ => true) true Tryd.f6.params.toList args.toList ds p := hA0
  rw [Tryd.params6] at hA hval hsz
  obtain ⟨v0, vs0, d0, ds0, p0, q0, hargs, rfl, rfl, h0, r0⟩ := trodAll_cons hA
  obtain ⟨v1, vs1, d1, ds1, p1, q1, rfl, rfl, rfl, h1, r1⟩ := trodAll_cons r0
  obtain ⟨v2, vs2, d2, ds2, p2, q2, rfl, rfl, rfl, h2, r2⟩ := trodAll_cons r1
  obtain ⟨rfl, rfl, rfl⟩ := trodAll_nil r2
  obtain rfl : args = #[v0, v1, v2] := by cases args; simp_all
  obtain ⟨rfl, rfl⟩ := trodVars_none hV
  have k0 := h0
  obtain ⟨⟨a0_0, a0_1, a0_2, a0_3, a0_4, a0_5, a0_6, a0_7, a0_8, a0_9, a0_10, a0_11⟩, hK0, ⟨w0_0, w0_1, w0_2, w0_3, w0_4, w0_5, w0_6, w0_7, w0_8, w0_9, w0_10, w0_11⟩⟩ := open_any prm0 hsz (j := 0) rfl rfl h0
  have e0 : v0.cells.toList = [.int .i64 a0_0, .int .i64 a0_1, .int .i64 a0_2, .int .i64 a0_3, .int .i64 a0_4, .int .i64 a0_5, .int .i64 a0_6, .int .i64 a0_7, .int .i64 a0_8, .int .i64 a0_9, .int .i64 a0_10, .int .i64 a0_11] := by
    generalize v0.cells.toList = cs at hK0 ⊢
    obtain ⟨_, _, rfl, rfl, ⟨_, _, rfl, rfl, ⟨_, _, rfl, rfl, ⟨_, _, rfl, rfl, ⟨_, _, rfl, rfl, ⟨_, _, rfl, rfl, ⟨_, _, rfl, rfl, ⟨_, _, rfl, rfl, ⟨_, _, rfl, rfl, ⟨_, _, rfl, rfl, ⟨_, _, rfl, rfl, rfl⟩⟩⟩⟩⟩⟩⟩⟩⟩⟩⟩ := hK0
    exact rfl
  obtain e0 := e0
  obtain rfl : v0 = .agg #[.int .i64 a0_0, .int .i64 a0_1, .int .i64 a0_2, .int .i64 a0_3, .int .i64 a0_4, .int .i64 a0_5, .int .i64 a0_6, .int .i64 a0_7, .int .i64 a0_8, .int .i64 a0_9, .int .i64 a0_10, .int .i64 a0_11] := agg_cells Tryd.underlying29 (hval 0 29 v0 rfl rfl) e0
  have k1 := h1
  obtain ⟨A1, len1, c1, rfl⟩ := okWide_slice Tryd.underlying22 (hval 1 22 v1 rfl rfl)
  obtain ⟨l1, ⟨A1', c1', hcs1, hc1, hr1⟩, w1⟩ := open_any prm1 hsz (j := 1) rfl rfl h1
  obtain ⟨rfl, rfl, rfl⟩ : A1 = A1' ∧ len1 = l1.length ∧ c1 = c1' := by simpa [Value.cells] using hcs1
  have k2 := h2
  obtain ⟨A2, len2, c2, rfl⟩ := okWide_slice Tryd.underlying25 (hval 2 25 v2 rfl rfl)
  obtain ⟨l2, ⟨A2', c2', hcs2, hc2, hr2⟩, w2⟩ := open_any prm2 hsz (j := 2) rfl rfl h2
  obtain ⟨rfl, rfl, rfl⟩ : A2 = A2' ∧ len2 = l2.length ∧ c2 = c2' := by simpa [Value.cells] using hcs2
  clear hA0 hval0 hsz0 hsz
  refine (Go.Proofs.YtdabedknidkimaaDoor.Vt.clepsydralaw19_VoteKeeps.calls a0_0 a0_1 a0_2 a0_3 a0_4 a0_5 a0_6 a0_7 a0_8 a0_9 a0_10 a0_11 A1 c1 l1 A2 c2 l2 W hr1 hc1 hr2 hc2 w0_0 w0_1 w0_2 w0_3 w0_4 w0_5 w0_6 w0_7 w0_8 w0_9 w0_10 w0_11 w1 w2 (of_laid hL)).mono fun e W' ⟨he, hb_⟩ => ?_
  have bel : Below W.heap.size W W' := hb_
  subst he
  exact ⟨_, rfl, _, _, _, [], _, [], hW', trodAll_mk1 (shut_bool Tryd.underlying4 _), (trodAll_cons_mk (Below.trod laidOut (by kernel_rfl) (of_decide_eq_true (by kernel_rfl)) k0 bel (trod_lt' k0)) (trodAll_cons_mk (Below.trod laidOut (by kernel_rfl) (of_decide_eq_true (by kernel_rfl)) k1 bel (trod_lt' k1)) (trodAll_cons_mk (Below.trod laidOut (by kernel_rfl) (of_decide_eq_true (by kernel_rfl)) k2 bel (trod_lt' k2)) trodAll_mk0))), rfl, bel.frame _, fun h => by cases h⟩
theorem over : Rows.voteKeepsRow.holds Tryd.pinned (OpenSpec.ofChange Rows.voteKeepsSpec) :=
  OpenClaim.holds_of_wide 6 Tryd.f6 rfl rfl rfl rfl rfl rfl rfl ⟨rfl, rfl, rfl, rfl, rfl⟩ rfl rfl rfl rfl rfl (by kernel_rfl) Tryd.func6 (by kernel_rfl)
    (of_decide_eq_true (by kernel_rfl)) (by unfold Func.isWrapper; first | (rw [if_pos (by decide +kernel)]; kernel_rfl) | (rw [if_neg (by decide +kernel)]; exact ⟨rfl, rfl⟩))
    (fun os started H enc _ => lifted os started H enc)
theorem proved : Rows.VoteKeepsCardSaid :=
  Claim7.holds_tied_plain_at .later [] [.data, .data, .data] true (true, "b215c2af5cb720aa96cc257b8456d1c8582a080b5fdb831fd6249f9850f53e91") false
    over (fun _ h => by cases h) (by kernel_rfl) (fun _ h => by cases h) voteKeeps_row_tie rfl ⟨rfl, rfl⟩ (by kernel_rfl) rfl
    (fun f fn hf hfn => by
      obtain rfl : f = 6 := Option.some.inj ((show Tryd.prog.funcNamed "clepsydra/clepsydralaw19.VoteKeeps" = some 6 by kernel_rfl).symm.trans hf) |>.symm
      obtain rfl : fn = Tryd.f6 := (Option.some.inj (Tryd.func6.symm.trans hfn)).symm
      refine ⟨by kernel_rfl, fun j t ht => ?_⟩
      rw [Tryd.params6] at ht
      have hall : ([29, 22, 25] : List TypeId).all (fun t => !(Tryd.prog.wantsStandIn t)) = true := by kernel_rfl
      have hm : t ∈ ([29, 22, 25] : List TypeId) := by simpa using Array.mem_of_getElem? ht
      exact (show Tryd.prog.wantsStandIn t = false by simpa using List.all_eq_true.1 hall t hm))
    (by kernel_rfl)
#print axioms proved
end Go.Proofs.YtdabedknidkimaaDoor.voteKeeps
namespace Go.Proofs.YtdabedknidkimaaDoor
/-- The row, under a short name, for the claim. -/
theorem voteKeeps_holds : Rows.VoteKeepsCardSaid := voteKeeps.proved
end Go.Proofs.YtdabedknidkimaaDoor
