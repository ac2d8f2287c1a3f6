/- Texts WFoot, WKept, WShare, WN, WFootNe, WAt, WEqStruct, WRepsOne, WInv, WInvWords, WGuard, WNEv, WMore, X0, Ev, Rx, Em, in one file, without what is not needed here. -/
import Derived.Laws.StructEq
import Derived.Test.YtbmfgcekglgliaaGreatProg
import Derived.Below
import Derived.Deep.Draws
import Derived.Deep.AppendLies
import Derived.Maps.AppendAt
import Derived.OwnWalk
import Derived.Laws.BytesArg
import Derived.Laws.MakeOwn
import Derived.Laws.OwnMore
import Derived.Deep.OwnRows
import Derived.Tactics
import Derived.Lib.ConvBytes
import Derived.Laws.Slices
import Derived.WalkKit
import Derived.KernelRfl
import Derived.RowKit3
import Derived.Deep.LoopGhost
import Derived.Deep.QuietTactic
import Derived.BigQuiet
import Derived.WideLaws
import Derived.Deep.DeepCutAuto
import Derived.Deep.CutBlock
import Derived.Deep.RegionHeld3
import Derived.Laws.Rows
import Derived.Lib.AppendStr
import Derived.ArgAppend
import Derived.Laws.IdiomCopy
import Derived.OrdersHeld
import Derived.Laws.BitsLemmas
import Derived.RowKit
import Derived.Lib.Hide
import Derived.Test.YtbmfgcekglgliaaGreatZGateKeeps0
namespace Go.Proofs.YtbmfgcekglgliaaGreatW.PrintWords
open Go.RowKit
namespace Kd
structure Heap {α : Type} (d : Kd α) : Prop where
  K : ∀ {w w1 : World} {x : α} {cs : List Value}, (∀ k, k < w.heap.size → w1.heap[k]? = w.heap[k]?) → d.K w x cs → d.K w1 x cs
theorem cell_heap {w w1 : World} (hb : ∀ k, k < w.heap.size → w1.heap[k]? = w.heap[k]?) {a : Addr} {v : Value} (h : w.cell? a = some v) : w1.cell? a = some v := by
  have := hb a.block (World.block_lt_of_cell? w a h)
  simpa [World.cell?, this] using h
theorem Heap.C {α : Type} {d : Kd α} (hd : Heap d) {w w1 : World} {A : Option Addr} {n : Nat} {xs : List α} (hb : ∀ k, k < w.heap.size → w1.heap[k]? = w.heap[k]?) (h : d.C w A n xs) : d.C w1 A n xs :=
  ⟨h.1, h.2.1, fun hn => by
    obtain ⟨ad, e, hc⟩ := h.2.2 hn
    refine ⟨ad, e, fun j p hj => ?_⟩
    obtain ⟨c, hs, hr, hcell⟩ := hc j p hj
    exact ⟨c, hs, hd.K hb hr, fun i u hu => cell_heap hb (hcell i u hu)⟩⟩
theorem heap_int (k : IntKind) : Heap (Kd.int k) := ⟨fun _ h => h⟩
theorem heap_pair {α β : Type} {a : Kd α} {b : Kd β} (ha : Heap a) (hb' : Heap b) : Heap (pair a b) := ⟨by
  rintro w w1 x cs hb ⟨c0, c1, rfl, h0, h1⟩
  exact ⟨c0, c1, rfl, ha.K hb h0, hb'.K hb h1⟩⟩
theorem heap_iso {α β : Type} {d : Kd α} (f : β → α) (hd : Heap d) : Heap (iso d f) := ⟨fun hb h => hd.K hb h⟩
section
variable {α : Type} {d : Kd α} {e base g n c : Nat} {ok : Nat → Prop} {w w0 W : World} {A : Option Addr} {xs : List α}
end
end Kd
end Go.Proofs.YtbmfgcekglgliaaGreatW.PrintWords

namespace Go.Proofs.YtbmfgcekglgliaaGreatW.PrintWords
open Go.RowKit
def Kept (w W : World) (S : Nat → Prop) : Prop := w.heap.size ≤ W.heap.size ∧ ∀ i, i < w.heap.size → ¬ S i → W.heap[i]? = w.heap[i]?
section
variable {w W W2 : World} {S S2 S' : Nat → Prop}
theorem Kept.refl (w : World) (S : Nat → Prop) : Kept w w S := ⟨Nat.le_refl _, fun _ _ _ => rfl⟩
theorem Kept.of_below (h : Below w.heap.size w W) (S : Nat → Prop) : Kept w W S := ⟨h.size, fun i hi _ => h.block i hi⟩
theorem Kept.mono (h : Kept w W S) (hs : ∀ k, S k → S' k) : Kept w W S' := ⟨h.1, fun i hi hn => h.2 i hi (fun hk => hn (hs i hk))⟩
theorem Kept.then_ (h : Kept w W S) (k : Kept W W2 S2) (hs : ∀ k, S2 k → S k ∨ w.heap.size ≤ k) : Kept w W2 S :=
  ⟨Nat.le_trans h.1 k.1, fun i hi hn => (k.2 i (Nat.lt_of_lt_of_le hi h.1) (fun h2 => (hs i h2).elim hn (fun h3 => by omega))).trans (h.2 i hi hn)⟩
theorem Kept.of_grown {row : Option Nat} (hg : W.grownBy W2 row) (h : Kept w W S) (hr : ∀ k, row = some k → S k ∨ w.heap.size ≤ k) : Kept w W2 S :=
  h.then_ (S2 := fun k => row = some k) ⟨hg.size, fun i hi hn => hg.block i hi (fun he => hn he.symm)⟩ hr
theorem Kept.below (h : Kept w W S) (hb : Below W.heap.size W W2) : Kept w W2 S := h.then_ (Kept.of_below hb (fun _ => False)) (fun _ hk => hk.elim)
theorem Kept.alloc (h : Kept w W S) (o : Obj) : Kept w (W.alloc o) S := h.below (below_alloc (Below.refl _ _) o)
theorem Kept.drew (h : Kept w W S) : Kept w W.drew S := h
theorem Kept.drewN (h : Kept w W S) (m : Nat) : Kept w (W.drewN m) S := h
theorem Kept.setCell (h : Kept w W S) {p : Addr} (hp : S p.block ∨ w.heap.size ≤ p.block) (u : Value) : Kept w (W.setCell p u) S :=
  h.then_ (S2 := fun k => k = p.block) ⟨by simp [World.setCell], fun i _ hn => Below.heap_setCell W p u i hn⟩ (fun k hk => by rw [hk]; exact hp)
theorem Kept.keep {g : Nat} (h : KeepBut w W g none) (k : Kept W W2 S2) (hs : ∀ k, S2 k → w.heap.size ≤ k) : KeepBut w W2 g none :=
  ⟨Nat.le_trans h.1 k.1, fun i hi hg hr => (k.2 i (Nat.lt_of_lt_of_le hi h.1) (fun h2 => by have := hs i h2; omega)).trans (h.2 i hi hg hr)⟩
end
namespace Kd
section
variable {α : Type} {d : Kd α} {e base n c : Nat} {ok oki S S2 : Nat → Prop} {w w0 W W1 W2 : World} {v : Value} {A : Option Addr} {xs : List α} {i : Int} {cs : List Value}
end
end Kd
end Go.Proofs.YtbmfgcekglgliaaGreatW.PrintWords

namespace Go.Proofs.YtbmfgcekglgliaaGreatW.PrintWords
open Go.RowKit
def Foot (P : World → Prop) (W : World) (ok : Nat → Prop) : Prop := ∀ W' : World, (∀ k, ok k → k < W.heap.size → W'.heap[k]? = W.heap[k]?) → P W'
theorem heap_lt {W W1 : World} {k : Nat} (h : W1.heap[k]? = W.heap[k]?) (hlt : k < W.heap.size) : k < W1.heap.size := by
  rw [Array.getElem?_eq_getElem hlt] at h
  exact (Array.getElem?_eq_some_iff.1 h).1
namespace Foot
variable {P Q : World → Prop} {W W1 : World} {ok ok' : Nat → Prop}
theorem now (h : Foot P W ok) : P W := h W (fun _ _ _ => rfl)
theorem mono (h : Foot P W ok) (hok : ∀ k, ok k → ok' k) : Foot P W ok' := fun W' hW => h W' (fun k hk hlt => hW k (hok k hk) hlt)
theorem bound (h : Foot P W ok) : Foot P W (fun k => ok k ∧ k < W.heap.size) := fun W' hW => h W' (fun k hk hlt => hW k ⟨hk, hlt⟩ hlt)
theorem step (h : Foot P W ok) (hm : ∀ k, ok k → k < W.heap.size → W1.heap[k]? = W.heap[k]?) : Foot P W1 ok := fun W' hW => h W' (fun k hk hlt => (hW k hk (heap_lt (hm k hk hlt) hlt)).trans (hm k hk hlt))
theorem imp (h : Foot P W ok) (hi : ∀ W', P W' → Q W') : Foot Q W ok := fun W' hW => hi W' (h W' hW)
theorem old (h : Foot P W ok) (hb : Below W.heap.size W W1) : Foot P W1 (fun k => ok k ∧ k < W.heap.size) := (h.bound).step (fun k _ hlt => hb.block k hlt)
end Foot
namespace Kd
def F {α : Type} (d : Kd α) (W : World) (ok : Nat → Prop) (A : Option Addr) (n : Nat) (xs : List α) : Prop := Foot (fun W => d.C W A n xs) W ok
def FK {α : Type} (d : Kd α) (W : World) (ok : Nat → Prop) (x : α) (c : List Value) : Prop := Foot (fun W => d.K W x c) W ok
section
variable {α β : Type} {d : Kd α} {e base n n' cc g N : Nat} {ok ok' okp S : Nat → Prop} {w w0 w1 W W1 : World} {A A' : Option Addr} {u v v1 : Value} {xs : List α} {xs' : List β} {d' : Kd β} {x : α} {c : List Value}
theorem F_nil (d : Kd α) (W : World) (ok : Nat → Prop) : F d W ok none ([] : List α).length [] := fun W' _ => C_nil d W'
theorem C_F (hd : Heap d) (h : d.C w A n xs) : F d w (fun k => k < w.heap.size) A n xs := fun _ hW => hd.C (fun k hlt => hW k hlt hlt) h
theorem FK_of_M (h : d.M W base ok x c) : FK d W ok x c := fun _ hW => d.K_of_M (M_step h hW)
end
end Kd
end Go.Proofs.YtbmfgcekglgliaaGreatW.PrintWords

namespace Go.Proofs.YtbmfgcekglgliaaGreatW.PrintWords
open Go.RowKit
namespace Kd
def chunks (sz : Nat) (n : Nat) (inner : List Value) : List (List Value) := (List.range n).map fun j => (inner.drop (j * sz)).take sz
theorem chunks_length (sz n : Nat) (inner : List Value) : (chunks sz n inner).length = n := by simp [chunks]
theorem chunks_at {sz n : Nat} {inner : List Value} {j : Nat} (hj : j < n) : (chunks sz n inner)[j]? = some ((inner.drop (j * sz)).take sz) := by simp [chunks, hj]
theorem chunks_get {sz n : Nat} {inner : List Value} {j : Nat} {c : List Value} (h : (chunks sz n inner)[j]? = some c) : c = (inner.drop (j * sz)).take sz := by
  have hj : j < n := by have := (List.getElem?_eq_some_iff.1 h).1; rwa [chunks_length] at this
  rw [chunks_at hj] at h
  injection h with h
  exact h.symm
theorem reps_raw {α : Type} {Rr : α → List Value → Prop} {sz : Nat} {xs : List α} {inner : List Value} (h : Reps Rr sz xs inner) (hR : ∀ x c, Rr x c → c.length = sz ∧ ∀ u ∈ c, u.oneCell' = true) : Reps (fun x cs => cs = x ∧ cs.length = sz ∧ ∀ u ∈ cs, u.oneCell' = true) sz (chunks sz xs.length inner) inner := by
  refine ⟨by rw [chunks_length]; exact h.1, fun j p hj => ?_⟩
  have hjl : j < xs.length := by have := (List.getElem?_eq_some_iff.1 hj).1; rwa [chunks_length] at this
  have hp := chunks_get hj
  exact ⟨hp.symm, hR _ _ (h.2 j _ (List.getElem?_eq_getElem hjl))⟩
section
variable {α : Type} {d : Kd α} {e base n cc g : Nat} {ok ok' okp S : Nat → Prop} {w w1 W W1 : World} {A : Option Addr} {u v v1 : Value} {xs : List α} {x : α} {c : List Value}
def N {α : Type} (d : Kd α) (e : Nat) (w : World) (base : Nat) (ok : Nat → Prop) (v : Value) (xs : List α) : Prop :=
  (∀ k, v.ownBlock = some k → ok k) ∧ ∃ rows : List (List Value), rows.length = xs.length ∧ (raw d.sz).R e w base (fun k => some k = v.ownBlock) v rows ∧ ∀ (j : Nat) (x : α) (c : List Value), xs[j]? = some x → rows[j]? = some c → FK d w (fun k => ok k ∧ some k ≠ v.ownBlock) x c
theorem R_N (h : d.R e w base ok v xs) : N d e w base ok v xs := by
  obtain ⟨h0, inner, ho, hr⟩ := h
  refine ⟨h0, chunks d.sz xs.length inner, chunks_length _ _ _, ⟨fun k hk => hk.symm, inner, by rw [chunks_length]; exact ho, reps_raw hr (fun x c hp => ⟨d.K_len (d.K_of_M hp), d.K_one (d.K_of_M hp)⟩)⟩, fun j x c hx hc => ?_⟩
  rw [chunks_get hc]
  exact FK_of_M (hr.2 j x hx)
theorem N_nil (d : Kd α) (e : Nat) (w : World) (base : Nat) (ok : Nat → Prop) : N d e w base ok (.slice none 0 0) [] := R_N (R_nil _ _ _ _ _)
end
end Kd
end Go.Proofs.YtbmfgcekglgliaaGreatW.PrintWords

namespace Go.Proofs.YtbmfgcekglgliaaGreatW.PrintWords
open Go.RowKit
namespace Kd
section
variable {α : Type} {d : Kd α} {W : World} {g n : Nat} {S ok : Nat → Prop} {A : Option Addr} {ad : Addr} {xs : List α}
end
end Kd
end Go.Proofs.YtbmfgcekglgliaaGreatW.PrintWords

namespace Go.Proofs.YtbmfgcekglgliaaGreatW.PrintWords
open Go.RowKit
section
variable {w w' u : World} {m B g : Nat} {o : Obj} {row : Option Nat} {S : Nat → Prop} {a : Addr} {v : Value}
end
namespace Kd
section
variable {α : Type} {d : Kd α} {e base n m : Nat} {ok : Nat → Prop} {w w' : World} {v : Value} {A : Option Addr} {xs : List α}
end
end Kd
end Go.Proofs.YtbmfgcekglgliaaGreatW.PrintWords

namespace Go.Proofs.YtbmfgcekglgliaaGreatW.PrintWords
open Go.RowKit
section
variable {P : Program} {d : Nat} {xs ys : Array Value} {f : Field} {fs : List Field} {a b : Value} {r s : Bool} {w : World}
end
end Go.Proofs.YtbmfgcekglgliaaGreatW.PrintWords

namespace Go.Proofs.YtbmfgcekglgliaaGreatW.PrintWords
theorem Reps.one {α : Type} {R : α → List Value → Prop} {ps : List α} {cs : List Value} {p : α} {v : Value} (hp : R p [v]) (h : Reps R 1 ps cs) : Reps R 1 (p :: ps) (v :: cs) := by
  refine ⟨by simp [h.1], fun j q hq => ?_⟩
  cases j with
  | zero =>
    simp only [List.getElem?_cons_zero, Option.some.injEq] at hq
    subst hq
    simpa using hp
  | succ j =>
    simp only [List.getElem?_cons_succ] at hq
    have h1 := h.2 j q hq
    simpa [Nat.mul_one] using h1
theorem Reps.front {α : Type} {R : α → List Value → Prop} {size : Nat} {ps : List α} {cs c all : List Value} {p : α} (hp : R p c) (hc : c.length = size) (h : Reps R size ps cs) (ha : c ++ cs = all) : Reps R size (p :: ps) all := by
  subst ha
  refine ⟨by rw [List.length_append, hc, h.1, List.length_cons, Nat.succ_mul, Nat.add_comm], fun j q hq => ?_⟩
  cases j with
  | zero =>
    simp only [List.getElem?_cons_zero, Option.some.injEq] at hq
    subst hq
    rw [Nat.zero_mul, List.drop_zero, List.take_append_of_le_length (by omega), List.take_of_length_le (by omega)]
    exact hp
  | succ j =>
    simp only [List.getElem?_cons_succ] at hq
    have h1 := h.2 j q hq
    rw [Nat.succ_mul, List.drop_append, List.drop_of_length_le (by rw [hc]; exact Nat.le_add_left _ _), List.nil_append, hc, Nat.add_sub_cancel]
    exact h1
theorem Reps.c2 {α : Type} {R : α → List Value → Prop} {ps : List α} {cs : List Value} {p : α} {va vb : Value} (hp : R p [va, vb]) (h : Reps R 2 ps cs) : Reps R 2 (p :: ps) (va :: vb :: cs) := Reps.front hp rfl h rfl
theorem Reps.c3 {α : Type} {R : α → List Value → Prop} {ps : List α} {cs : List Value} {p : α} {va vb vc : Value} (hp : R p [va, vb, vc]) (h : Reps R 3 ps cs) : Reps R 3 (p :: ps) (va :: vb :: vc :: cs) := Reps.front hp rfl h rfl
theorem Reps.c4 {α : Type} {R : α → List Value → Prop} {ps : List α} {cs : List Value} {p : α} {va vb vc vd : Value} (hp : R p [va, vb, vc, vd]) (h : Reps R 4 ps cs) : Reps R 4 (p :: ps) (va :: vb :: vc :: vd :: cs) := Reps.front hp rfl h rfl
theorem Reps.c5 {α : Type} {R : α → List Value → Prop} {ps : List α} {cs : List Value} {p : α} {va vb vc vd ve : Value} (hp : R p [va, vb, vc, vd, ve]) (h : Reps R 5 ps cs) : Reps R 5 (p :: ps) (va :: vb :: vc :: vd :: ve :: cs) := Reps.front hp rfl h rfl
theorem Reps.c6 {α : Type} {R : α → List Value → Prop} {ps : List α} {cs : List Value} {p : α} {va vb vc vd ve vf : Value} (hp : R p [va, vb, vc, vd, ve, vf]) (h : Reps R 6 ps cs) : Reps R 6 (p :: ps) (va :: vb :: vc :: vd :: ve :: vf :: cs) := Reps.front hp rfl h rfl
theorem Reps.c7 {α : Type} {R : α → List Value → Prop} {ps : List α} {cs : List Value} {p : α} {va vb vc vd ve vf vg : Value} (hp : R p [va, vb, vc, vd, ve, vf, vg]) (h : Reps R 7 ps cs) : Reps R 7 (p :: ps) (va :: vb :: vc :: vd :: ve :: vf :: vg :: cs) := Reps.front hp rfl h rfl
theorem Reps.c8 {α : Type} {R : α → List Value → Prop} {ps : List α} {cs : List Value} {p : α} {va vb vc vd ve vf vg vh : Value} (hp : R p [va, vb, vc, vd, ve, vf, vg, vh]) (h : Reps R 8 ps cs) : Reps R 8 (p :: ps) (va :: vb :: vc :: vd :: ve :: vf :: vg :: vh :: cs) := Reps.front hp rfl h rfl
theorem Reps.c9 {α : Type} {R : α → List Value → Prop} {ps : List α} {cs : List Value} {p : α} {va vb vc vd ve vf vg vh vi : Value} (hp : R p [va, vb, vc, vd, ve, vf, vg, vh, vi]) (h : Reps R 9 ps cs) : Reps R 9 (p :: ps) (va :: vb :: vc :: vd :: ve :: vf :: vg :: vh :: vi :: cs) := Reps.front hp rfl h rfl
theorem Reps.c10 {α : Type} {R : α → List Value → Prop} {ps : List α} {cs : List Value} {p : α} {va vb vc vd ve vf vg vh vi vj : Value} (hp : R p [va, vb, vc, vd, ve, vf, vg, vh, vi, vj]) (h : Reps R 10 ps cs) : Reps R 10 (p :: ps) (va :: vb :: vc :: vd :: ve :: vf :: vg :: vh :: vi :: vj :: cs) := Reps.front hp rfl h rfl
end Go.Proofs.YtbmfgcekglgliaaGreatW.PrintWords

namespace Go.Proofs.YtbmfgcekglgliaaGreatW.PrintLast
def up (b : Nat → Bool) (i : Nat) : Nat → Bool := fun j => if j = i then true else b j
section
variable {P : Program} {ops : Array Oper} {Q : Exit → Act → World → Prop} {md : Region.Mode} {T : Bool × List (List Nat × List Nat)} {B : List Nat} {O : List Nat} {b : Nat → Bool} {i j n : Nat}
theorem put_comm {a : Act} {s t : Tmp} {u v : Value} (h : s ≠ t) : (a.put (some s) u).put (some t) v = (a.put (some t) v).put (some s) u := by
  simp only [Act.put]
  rw [Array.setIfInBounds_comm _ _ h]
end
end Go.Proofs.YtbmfgcekglgliaaGreatW.PrintLast

namespace Go.Proofs.YtbmfgcekglgliaaGreatW.PrintWords
open Go.RowKit
theorem own_apart {v1 v2 : Value} {n : Nat} (hlt : ∀ k, v1.ownBlock = some k → k < n) (hge : ∀ k, v2.ownBlock = some k → n ≤ k) : v1.ownBlock = none ∨ v1.ownBlock ≠ v2.ownBlock := by
  cases h : v1.ownBlock with
  | none => exact .inl rfl
  | some k => exact .inr (fun e => by have := hlt k h; have := hge k e.symm; omega)
end Go.Proofs.YtbmfgcekglgliaaGreatW.PrintWords
namespace Go.Proofs.YtbmfgcekglgliaaGreatW.PrintLast
section
variable {ops : Array Oper} {a : Act} {o og : Oper} {g : Nat} {t : Tmp} {u : Bool}
end
end Go.Proofs.YtbmfgcekglgliaaGreatW.PrintLast

namespace Go.Proofs.YtbmfgcekglgliaaGreatW.PrintWords
open Go.RowKit
section
variable {P : Program} {ops : Array Oper} {rest : List Oper} {o : Oper} {a : Act} {Q : Exit → Act → World → Prop} {W : World}
theorem gate_guard (hw : Region.wanted o (yielded ops a.tmps) = true) (h : wpList P ops Q ({ o with guard := none } :: rest) a W) : wpList P ops Q (o :: rest) a W := by
  have h1 : Region.wanted { o with guard := none } (yielded ops a.tmps) = true := rfl
  unfold wpList at h ⊢
  rw [if_pos h1] at h
  rw [if_pos hw]
  exact h
end
end Go.Proofs.YtbmfgcekglgliaaGreatW.PrintWords

namespace Go.Proofs.YtbmfgcekglgliaaGreatW.PrintWords
open Go.RowKit
namespace Kd
section
variable {α : Type} {d : Kd α} {e base n cap g : Nat} {ok ok' okp : Nat → Prop} {w w1 W : World} {v v1 : Value} {xs ys : List α}
end
section
variable {P : Program} {ops : Array Oper} {rest : List Oper} {o : Oper} {a : Act} {Q : Exit → Act → World → Prop} {Kc : Act → World → Prop} {α : Type}
end
end Kd
end Go.Proofs.YtbmfgcekglgliaaGreatW.PrintWords

namespace Go.Proofs.YtbmfgcekglgliaaGreatW.PrintMore
open Go.RowKit Go.Proofs.YtbmfgcekglgliaaGreatW.PrintWords
namespace Kd
open Go.Proofs.YtbmfgcekglgliaaGreatW.PrintWords.Kd
end Kd
namespace Kd
open Go.Proofs.YtbmfgcekglgliaaGreatW.PrintWords.Kd
section
variable {α : Type} {d : Kd α} {e base g N : Nat} {ok : Nat → Prop} {W w1 : World} {u v : Value} {xs : List α}
end
end Kd
theorem max2_int (k k' : IntKind) (x y : Int) : Builtin.max2 (.int k x) (.int k' y) = pure (.int k (if x < y then y else x)) := by simp only [Builtin.max2, gt_iff_lt]
theorem min2_int (k k' : IntKind) (x y : Int) : Builtin.min2 (.int k x) (.int k' y) = pure (.int k (if y < x then y else x)) := by simp only [Builtin.min2]
theorem max_two (ats : Array TypeId) (ty : TypeId) (a b : Value) : Builtin.max_ ats ty #[a, b] = (Builtin.max2 a b >>= fun s => pure s) := by simp only [Builtin.max_, List.foldlM_cons, List.foldlM_nil]
theorem min_two (ats : Array TypeId) (ty : TypeId) (a b : Value) : Builtin.min_ ats ty #[a, b] = (Builtin.min2 a b >>= fun s => pure s) := by simp only [Builtin.min_, List.foldlM_cons, List.foldlM_nil]
theorem max_three (ats : Array TypeId) (ty : TypeId) (a b c : Value) : Builtin.max_ ats ty #[a, b, c] = (Builtin.max2 a b >>= fun s => Builtin.max2 s c >>= fun s => pure s) := by simp only [Builtin.max_, List.foldlM_cons, List.foldlM_nil]
theorem min_three (ats : Array TypeId) (ty : TypeId) (a b c : Value) : Builtin.min_ ats ty #[a, b, c] = (Builtin.min2 a b >>= fun s => Builtin.min2 s c >>= fun s => pure s) := by simp only [Builtin.min_, List.foldlM_cons, List.foldlM_nil]
theorem max_four (ats : Array TypeId) (ty : TypeId) (a b c d : Value) : Builtin.max_ ats ty #[a, b, c, d] = (Builtin.max2 a b >>= fun s => Builtin.max2 s c >>= fun s => Builtin.max2 s d >>= fun s => pure s) := by simp only [Builtin.max_, List.foldlM_cons, List.foldlM_nil]
theorem min_four (ats : Array TypeId) (ty : TypeId) (a b c d : Value) : Builtin.min_ ats ty #[a, b, c, d] = (Builtin.min2 a b >>= fun s => Builtin.min2 s c >>= fun s => Builtin.min2 s d >>= fun s => pure s) := by simp only [Builtin.min_, List.foldlM_cons, List.foldlM_nil]
end Go.Proofs.YtbmfgcekglgliaaGreatW.PrintMore
namespace Go.Proofs.YtbmfgcekglgliaaGreatW.PrintWords
open Go.RowKit
section
variable {P : Program} {ops : Array Oper} {rest : List Oper} {o : Oper} {a : Act} {Q : Exit → Act → World → Prop} {W : World}
theorem gate_callee {f : FuncId} {as_ : Array Operand} {ts : Array TypeId} (_ho : o.op = .call { callee := .value (.func f), args := as_, argTypes := ts }) (h : wpList P ops Q (o :: rest) a W) : wpList P ops Q (o :: rest) a W := h
theorem gate_builtin {b : Builtin} {xs : Array Operand} {ts : Array TypeId} (_ho : o.op = .call { callee := .builtin b, args := xs, argTypes := ts }) (h : wpList P ops Q (o :: rest) a W) : wpList P ops Q (o :: rest) a W := h
end
theorem drewN_self (w : World) (n : Nat) : w.drewN n = w.drewN n := rfl
namespace Kd
section
variable {α : Type} {d : Kd α} {e base : Nat} {ok : Nat → Prop} {W w1 : World} {v : Value} {xs : List α}
end
section
variable {α : Type} {d : Kd α} {e base g n cap : Nat} {ok oki okp : Nat → Prop} {W : World} {xs : List α} {i : Int} {c : List Value}
end
section
variable {α : Type} {d : Kd α} {e base b b' g N : Nat} {ok ok1 : Nat → Prop} {W W2 w1 : World} {u v : Value} {xs ys : List α} {S : Nat → Prop}
end
end Kd
end Go.Proofs.YtbmfgcekglgliaaGreatW.PrintWords
namespace Go.Proofs.YtbmfgcekglgliaaGreatW.PrintWords
open Go.RowKit
namespace Kd
def V {α : Type} (d : Kd α) (_e : Nat) (W : World) (_base : Nat) (ok : Nat → Prop) (v : Value) (xs : List α) : Prop := ∃ A c, v = .slice A xs.length c ∧ xs.length ≤ c ∧ F d W ok A xs.length xs
section
variable {α β : Type} {d : Kd α} {e base base' n m c g N' lo hi : Nat} {ok ok' S : Nat → Prop} {w W w1 : World} {A : Option Addr} {ad : Addr} {u v v1 : Value} {xs : List α}
theorem V_nil (d : Kd α) (e : Nat) (W : World) (base : Nat) (ok : Nat → Prop) : V d e W base ok (.slice none 0 0) [] := ⟨none, 0, rfl, Nat.le_refl _, F_nil d W ok⟩
end
end Kd
end Go.Proofs.YtbmfgcekglgliaaGreatW.PrintWords

namespace Go.Proofs.YtbmfgcekglgliaaGreat.X
open Go.RowKit Go.Proofs.YtbmfgcekglgliaaGreatW.PrintWords Go.Proofs.YtbmfgcekglgliaaGreatW.PrintLast Go.Proofs.YtbmfgcekglgliaaGreatW.PrintMore
attribute [local go_sem] max2_int min2_int max_two min_two max_three min_three max_four min_four   -- for this text's walks alone
set_option linter.unusedVariables false
set_option linter.unusedSimpArgs false
def errW : Option Int → Value
  | none => .nilIface
  | some c => .iface 0 (.int .i64 c)
theorem errW_none : errW none = .nilIface := rfl
theorem errW_some (c : Int) : errW (some c) = .iface 0 (.int .i64 c) := rfl
theorem info3 : (Tryz.prog.info? 3).map (fun i => (i.zero, i.size, i.bytes)) = some (some (.int .i64 0), 1, 8) := by kernel_rfl
structure S25 where
  f0 : Int
  f1 : Int
def z25 : S25 := ⟨(0 : Int), (0 : Int)⟩
def k25 : Kd S25 := Kd.iso (Kd.pair (Kd.int .i64) (Kd.int .i64)) (fun x : S25 => (x.f0, x.f1))
theorem k25_heap : Kd.Heap k25 := Kd.heap_iso _ (Kd.heap_pair (Kd.heap_int .i64) (Kd.heap_int .i64))
theorem k25_open {w : World} {x : S25} {cs : List Value} (h : k25.K w x cs) : cs = [.int .i64 x.f0, .int .i64 x.f1] := by
  obtain ⟨_, _, rfl, rfl, rfl⟩ := h
  exact rfl
theorem k25_mk (w : World) (x : S25)  : k25.K w x [.int .i64 x.f0, .int .i64 x.f1] := ⟨[.int .i64 x.f0], [.int .i64 x.f1], rfl, rfl, rfl⟩
def rd_T25 (xs : List S25) (i : Int) : S25 := xs.getD i.toNat z25
theorem at_T25 {w : World} {A : Option Addr} {n : Nat} {xs : List S25} (h : Kd.C k25 w A n xs) (i : Int) (h0 : 0 ≤ i) (h1 : i < n) : ∃ ad , A = some ad ∧ w.cell? (ad.add (i.toNat * 2)) = some (.int .i64 (rd_T25 xs i).f0) ∧ w.cell? ⟨(ad.add (i.toNat * 2)).block, (ad.add (i.toNat * 2)).off + 1, none⟩ = some (.int .i64 (rd_T25 xs i).f1) := by
  obtain ⟨ad, c, e, _, hK, hc0⟩ := Kd.C_get h z25 i h0 h1
  have hc : ∀ j u, c[j]? = some u → w.cell? (ad.add (i.toNat * 2 + j)) = some u := hc0
  obtain rfl := k25_open hK
  exact ⟨ad, e, hc 0 _ rfl, by rw [← add_field _ _ 1 (by omega)]; exact hc 1 _ rfl⟩
structure S28 where
  f0 : Int
  f1 : Int
def z28 : S28 := ⟨(0 : Int), (0 : Int)⟩
def k28 : Kd S28 := Kd.iso (Kd.pair (Kd.int .i64) (Kd.int .i64)) (fun x : S28 => (x.f0, x.f1))
theorem k28_open {w : World} {x : S28} {cs : List Value} (h : k28.K w x cs) : cs = [.int .i64 x.f0, .int .i64 x.f1] := by
  obtain ⟨_, _, rfl, rfl, rfl⟩ := h
  exact rfl
structure S58 where
  f0 : Int
  f1 : Int
def z58 : S58 := ⟨(0 : Int), (0 : Int)⟩
def k58 : Kd S58 := Kd.iso (Kd.pair (Kd.int .i64) (Kd.int .i64)) (fun x : S58 => (x.f0, x.f1))
theorem k58_heap : Kd.Heap k58 := Kd.heap_iso _ (Kd.heap_pair (Kd.heap_int .i64) (Kd.heap_int .i64))
theorem k58_open {w : World} {x : S58} {cs : List Value} (h : k58.K w x cs) : cs = [.int .i64 x.f0, .int .i64 x.f1] := by
  obtain ⟨_, _, rfl, rfl, rfl⟩ := h
  exact rfl
theorem k58_mk (w : World) (x : S58)  : k58.K w x [.int .i64 x.f0, .int .i64 x.f1] := ⟨[.int .i64 x.f0], [.int .i64 x.f1], rfl, rfl, rfl⟩
structure S47 where
  f0 : Int
  f1 : Int
  f2 : S25
  f3 : Int
  f4 : Int
  f5 : Bool
  f6 : Bool
  f7 : S25
  f8 : Int
  f9 : S28
  f10 : (List S58)
def z47 : S47 := ⟨(0 : Int), (0 : Int), z25, (0 : Int), (0 : Int), false, false, z25, (0 : Int), z28, ([] : List S58)⟩
def k47 : Kd S47 := Kd.iso (Kd.pair (Kd.int .i64) (Kd.pair (Kd.int .i64) (Kd.pair k25 (Kd.pair (Kd.int .i64) (Kd.pair (Kd.int .i64) (Kd.pair Kd.bool (Kd.pair Kd.bool (Kd.pair k25 (Kd.pair (Kd.int .i64) (Kd.pair k28 (Kd.slice 58 k58))))))))))) (fun x : S47 => (x.f0, x.f1, x.f2, x.f3, x.f4, x.f5, x.f6, x.f7, x.f8, x.f9, x.f10))
theorem k47_open {w : World} {x : S47} {cs : List Value} (h : k47.K w x cs) : ∃ A13 c13, cs = [.int .i64 x.f0, .int .i64 x.f1, .int .i64 x.f2.f0, .int .i64 x.f2.f1, .int .i64 x.f3, .int .i64 x.f4, .bool x.f5, .bool x.f6, .int .i64 x.f7.f0, .int .i64 x.f7.f1, .int .i64 x.f8, .int .i64 x.f9.f0, .int .i64 x.f9.f1, .slice A13 x.f10.length c13] ∧ x.f10.length ≤ c13 ∧ k58.C w A13 x.f10.length x.f10 := by
  obtain ⟨_, _, rfl, rfl, ⟨_, _, rfl, rfl, ⟨_, _, rfl, s2, ⟨_, _, rfl, rfl, ⟨_, _, rfl, rfl, ⟨_, _, rfl, rfl, ⟨_, _, rfl, rfl, ⟨_, _, rfl, s8, ⟨_, _, rfl, rfl, ⟨_, _, rfl, s11, ⟨A13, c13, rfl, l13, g13⟩⟩⟩⟩⟩⟩⟩⟩⟩⟩⟩ := h
  obtain rfl := k25_open s2
  obtain rfl := k25_open s8
  obtain rfl := k28_open s11
  exact ⟨A13, c13, rfl, l13, g13⟩
structure S49 where
  f0 : S47
  f1 : Int
def z49 : S49 := ⟨z47, (0 : Int)⟩
def k49 : Kd S49 := Kd.iso (Kd.pair k47 (Kd.int .i64)) (fun x : S49 => (x.f0, x.f1))
theorem k49_open {w : World} {x : S49} {cs : List Value} (h : k49.K w x cs) : ∃ A13 c13, cs = [.int .i64 x.f0.f0, .int .i64 x.f0.f1, .int .i64 x.f0.f2.f0, .int .i64 x.f0.f2.f1, .int .i64 x.f0.f3, .int .i64 x.f0.f4, .bool x.f0.f5, .bool x.f0.f6, .int .i64 x.f0.f7.f0, .int .i64 x.f0.f7.f1, .int .i64 x.f0.f8, .int .i64 x.f0.f9.f0, .int .i64 x.f0.f9.f1, .slice A13 x.f0.f10.length c13, .int .i64 x.f1] ∧ x.f0.f10.length ≤ c13 ∧ k58.C w A13 x.f0.f10.length x.f0.f10 := by
  obtain ⟨_, _, rfl, s0, rfl⟩ := h
  obtain ⟨A13, c13, rfl, l13, g13⟩ := k47_open s0
  exact ⟨A13, c13, rfl, l13, g13⟩
end Go.Proofs.YtbmfgcekglgliaaGreat.X

namespace Go.Proofs.YtbmfgcekglgliaaGreatEv
open Go.RowKit Go.Proofs.YtbmfgcekglgliaaGreatW.PrintWords Go.Proofs.YtbmfgcekglgliaaGreatW.PrintLast Go.Proofs.YtbmfgcekglgliaaGreatW.PrintMore
theorem reps_one {α : Type} {d : Kd α} {W : World} {x : α} {c : List Value} (h : d.K W x c) : Reps (d.K W) d.sz [x] c := by
  refine ⟨by rw [d.K_len h, List.length_singleton, Nat.one_mul], fun j q hq => ?_⟩
  have hj : j = 0 := by
    have := (List.getElem?_eq_some_iff.1 hq).1
    simpa using this
  subst hj
  have hq' : x = q := by simpa using hq
  subst hq'
  rw [Nat.zero_mul, List.drop_zero, ← d.K_len h, List.take_length]
  exact h
structure Keep (A : Nat → Prop) (W W' : World) : Prop where
  size : W.heap.size ≤ W'.heap.size
  same : ∀ k, k < W.heap.size → ¬ A k → W'.heap[k]? = W.heap[k]?
theorem Keep.refl (A : Nat → Prop) (W : World) : Keep A W W := ⟨Nat.le_refl _, fun _ _ _ => rfl⟩
theorem Keep.trans {A : Nat → Prop} {W W1 W2 : World} (h : Keep A W W1) (g : Keep A W1 W2) : Keep A W W2 :=
  ⟨Nat.le_trans h.size g.size, fun k hk ha => (g.same k (Nat.lt_of_lt_of_le hk h.size) ha).trans (h.same k hk ha)⟩
theorem Keep.mono {A A' : Nat → Prop} {W W' : World} (h : Keep A W W') (hA : ∀ k, k < W.heap.size → A k → A' k) : Keep A' W W' := ⟨h.size, fun k hk ha => h.same k hk (fun g => ha (hA k hk g))⟩
theorem Keep.of_below {A : Nat → Prop} {W W' : World} (h : Below W.heap.size W W') : Keep A W W' := ⟨h.size, fun k hk _ => h.block k hk⟩
abbrev Tr (A : Nat → Prop) (W : World) (p : World → Prop) : Prop := Foot p W (fun k => ¬ A k)
theorem Tr.keep {A : Nat → Prop} {W W1 : World} {p : World → Prop} (h : Tr A W p) (k : Keep A W W1) : Tr A W1 p := Foot.step h (fun j ha hj => k.same j hj ha)
theorem Tr.less {A A' : Nat → Prop} {W : World} {p : World → Prop} (h : Tr A' W p) (hA : ∀ k, k < W.heap.size → A k → A' k) : Tr A W p := fun W' g => h W' (fun k hk hl => g k (fun q => hk (hA k hl q)) hl)
theorem Tr.true (A : Nat → Prop) (W : World) : Tr A W (fun _ => True) := fun _ _ => trivial
theorem Tr.and {A : Nat → Prop} {W : World} {p q : World → Prop} (h : Tr A W p) (g : Tr A W q) : Tr A W (fun W => p W ∧ q W) := fun W' k => ⟨h W' k, g W' k⟩
theorem Tr.of_C {α : Type} {d : Kd α} {W : World} {A1 : Option Addr} {n : Nat} {xs : List α} (h : d.C W A1 n xs) (hd : Kd.Heap d) : Tr (fun _ => False) W (fun W => d.C W A1 n xs) := Foot.mono (Kd.C_F hd h) (fun _ _ => id)
def Of (bl : List (Nat × TypeId × Array Value)) (k : Nat) : Prop := ∃ x, x ∈ bl ∧ x.1 = k
structure Fr (A : Nat → Prop) (w W : World) (bl : List (Nat × TypeId × Array Value)) (p : World → Prop) : Prop where
  av : ∀ k, A k → k < w.heap.size
  below : Below w.heap.size w W
  blk : ∀ x, x ∈ bl → W.heap[x.1]? = some (.cells x.2.2 x.2.1 (0, 0)) ∧ w.heap.size ≤ x.1
  nd : bl.Pairwise (fun x y => x.1 ≠ y.1)
  tr : Tr (fun k => A k ∨ Of bl k) W p
theorem Fr.start {A : Nat → Prop} {w : World} {p : World → Prop} (hA : ∀ k, A k → k < w.heap.size) (h : Tr A w p) : Fr A w w [] p :=
  ⟨hA, Below.refl _ _, fun x hx => by simp at hx, List.Pairwise.nil, Tr.less h (fun k _ g => by rcases g with g | ⟨x, hx, _⟩; exact g; simp at hx)⟩
theorem Fr.alloc {A : Nat → Prop} {w W W1 : World} {bl : List (Nat × TypeId × Array Value)} {p : World → Prop} {g : Nat} {t : TypeId} {cs : Array Value} (h : Fr A w W bl p) (hg : g = W.heap.size) (hb : W1.heap[g]? = some (.cells cs t (0, 0))) (hB : Below W.heap.size W W1) :
    Fr A w W1 ((g, t, cs) :: bl) p := by
  subst hg
  refine ⟨h.av, h.below.trans (hB.mono h.below.size), ?_, ?_, ?_⟩
  · intro x hx
    rcases List.mem_cons.1 hx with rfl | hx
    · exact ⟨hb, h.below.size⟩
    · obtain ⟨h1, h2⟩ := h.blk x hx
      exact ⟨(hB.block _ (blk_lt h1)).trans h1, h2⟩
  · refine List.Pairwise.cons ?_ h.nd
    intro x hx e
    have := blk_lt (h.blk x hx).1
    have e' : W.heap.size = x.1 := e
    omega
  · refine fun W' k => h.tr W' (fun j ha hj => (k j (fun q => ?_) (by have := hB.size; omega)).trans (hB.block j hj))
    rcases q with q | ⟨x, hx, e⟩
    · exact ha (.inl q)
    · rcases List.mem_cons.1 hx with rfl | hx
      · have e' : W.heap.size = j := e
        omega
      · exact ha (.inr ⟨x, hx, e⟩)
inductive At : List (Nat × TypeId × Array Value) → Nat → TypeId → Array Value → Array Value → List (Nat × TypeId × Array Value) → Prop
  | head {g : Nat} {t : TypeId} {old cs : Array Value} {bl : List (Nat × TypeId × Array Value)} : At ((g, t, old) :: bl) g t old cs ((g, t, cs) :: bl)
  | tail {g : Nat} {t : TypeId} {old cs : Array Value} {x : Nat × TypeId × Array Value} {bl bl' : List (Nat × TypeId × Array Value)} (h : At bl g t old cs bl') : At (x :: bl) g t old cs (x :: bl')
theorem At.mem {bl bl' : List (Nat × TypeId × Array Value)} {g : Nat} {t : TypeId} {old cs : Array Value} (h : At bl g t old cs bl') : (g, t, old) ∈ bl := by
  induction h with
  | head => exact List.mem_cons_self
  | tail _ ih => exact List.mem_cons_of_mem _ ih
theorem At.map {bl bl' : List (Nat × TypeId × Array Value)} {g : Nat} {t : TypeId} {old cs : Array Value} (h : At bl g t old cs bl') : bl'.map (·.1) = bl.map (·.1) := by
  induction h with
  | head => rfl
  | tail _ ih => simp [ih]
theorem At.of {bl bl' : List (Nat × TypeId × Array Value)} {g : Nat} {t : TypeId} {old cs : Array Value} (h : At bl g t old cs bl') (k : Nat) : Of bl' k ↔ Of bl k := by
  have e := h.map
  have h1 : ∀ l : List (Nat × TypeId × Array Value), Of l k ↔ k ∈ l.map (·.1) := fun l => by simp [Of]
  rw [h1, h1, e]
theorem At.other {bl bl' : List (Nat × TypeId × Array Value)} {g : Nat} {t : TypeId} {old cs : Array Value} (h : At bl g t old cs bl') (nd : bl.Pairwise (fun x y => x.1 ≠ y.1)) : ∀ x, x ∈ bl' → x = (g, t, cs) ∨ (x ∈ bl ∧ x.1 ≠ g) := by
  induction h with
  | head =>
    intro x hx
    rcases List.mem_cons.1 hx with rfl | hx
    · exact .inl rfl
    · exact .inr ⟨List.mem_cons_of_mem _ hx, fun e => (List.pairwise_cons.1 nd).1 x hx e.symm⟩
  | tail h ih =>
    intro x hx
    rcases List.mem_cons.1 hx with rfl | hx
    · exact .inr ⟨List.mem_cons_self, fun e => (List.pairwise_cons.1 nd).1 _ h.mem e⟩
    · rcases ih (List.pairwise_cons.1 nd).2 x hx with rfl | ⟨h1, h2⟩
      · exact .inl rfl
      · exact .inr ⟨List.mem_cons_of_mem _ h1, h2⟩
theorem pairwise_map {bl bl' : List (Nat × TypeId × Array Value)} (e : bl'.map (·.1) = bl.map (·.1)) (h : bl.Pairwise (fun x y => x.1 ≠ y.1)) : bl'.Pairwise (fun x y => x.1 ≠ y.1) := by
  have h1 : ∀ l : List (Nat × TypeId × Array Value), l.Pairwise (fun x y => x.1 ≠ y.1) ↔ (l.map (·.1)).Pairwise (· ≠ ·) := fun l => by rw [List.pairwise_map]
  rw [h1] at h ⊢
  rw [e]
  exact h
theorem Fr.put {A : Nat → Prop} {w W W1 : World} {bl bl' : List (Nat × TypeId × Array Value)} {p : World → Prop} {g : Nat} {t : TypeId} {old cs : Array Value} (h : Fr A w W bl p) (ha : At bl g t old cs bl') (hb : W1.heap[g]? = some (.cells cs t (0, 0)))
    (hg : W.grownBy W1 (some g)) (hf : ∀ k, k ≠ g → W1.heap[k]? = W.heap[k]?) (hs : W1.heap.size = W.heap.size) : Fr A w W1 bl' p := by
  have hm := h.blk _ ha.mem
  refine ⟨h.av, h.below.grown hg h.below.size (fun k e => by injection e with e; exact e ▸ hm.2), ?_, pairwise_map ha.map h.nd, ?_⟩
  · intro x hx
    rcases ha.other h.nd x hx with rfl | ⟨h1, h2⟩
    · exact ⟨hb, hm.2⟩
    · exact ⟨(hf _ h2).trans (h.blk x h1).1, (h.blk x h1).2⟩
  · refine fun W' k => h.tr W' (fun j hn hj => ?_)
    have hjg : j ≠ g := fun e => hn (.inr ⟨_, ha.mem, e.symm⟩)
    exact (k j (fun q => hn (q.imp id (ha.of j).1)) (by omega)).trans (hf j hjg)
theorem Fr.call {A : Nat → Prop} {w W W1 : World} {bl : List (Nat × TypeId × Array Value)} {p : World → Prop} (h : Fr A w W bl p) (hB : Below W.heap.size W W1) : Fr A w W1 bl p :=
  ⟨h.av, h.below.trans (hB.mono h.below.size), fun x hx => ⟨(hB.block _ (blk_lt (h.blk x hx).1)).trans (h.blk x hx).1, (h.blk x hx).2⟩, h.nd, Tr.keep h.tr (Keep.of_below hB)⟩
theorem Fr.call2 {A : Nat → Prop} {w W W1 : World} {bl : List (Nat × TypeId × Array Value)} {p q : World → Prop} (h : Fr A w W bl p) (hB : Below W.heap.size W W1) (hq : Tr (fun k => A k ∨ Of bl k) W1 q) : Fr A w W1 bl (fun W => p W ∧ q W) :=
  ⟨h.av, h.below.trans (hB.mono h.below.size), fun x hx => ⟨(hB.block _ (blk_lt (h.blk x hx).1)).trans (h.blk x hx).1, (h.blk x hx).2⟩, h.nd, Tr.and (Tr.keep h.tr (Keep.of_below hB)) hq⟩
theorem Fr.imp {A : Nat → Prop} {w W : World} {bl : List (Nat × TypeId × Array Value)} {p q : World → Prop} (h : Fr A w W bl p) (g : ∀ W', p W' → q W') : Fr A w W bl q := ⟨h.av, h.below, h.blk, h.nd, Foot.imp h.tr g⟩
theorem Fr.drop {A : Nat → Prop} {w W : World} {x : Nat × TypeId × Array Value} {bl : List (Nat × TypeId × Array Value)} {p : World → Prop} (h : Fr A w W (x :: bl) p) : Fr A w W bl p :=
  ⟨h.av, h.below, fun y hy => h.blk y (List.mem_cons_of_mem _ hy), (List.pairwise_cons.1 h.nd).2, Tr.less h.tr (fun _ _ g => g.imp id (fun ⟨y, hy, e⟩ => ⟨y, List.mem_cons_of_mem _ hy, e⟩))⟩
theorem Fr.drewN {A : Nat → Prop} {w W : World} {bl : List (Nat × TypeId × Array Value)} {p : World → Prop} (h : Fr A w W bl p) (n : Nat) : Fr A w (W.drewN n) bl p := h.call (pw_below_drewN (Below.refl _ _) n)
theorem Fr.avs {A : Nat → Prop} {w W : World} {bl : List (Nat × TypeId × Array Value)} {p : World → Prop} (h : Fr A w W bl p) : ∀ k, (A k ∨ Of bl k) → k < W.heap.size := by
  rintro k (hk | ⟨x, hx, rfl⟩)
  · exact Nat.lt_of_lt_of_le (h.av k hk) h.below.size
  · exact blk_lt (h.blk x hx).1
theorem Fr.now {A : Nat → Prop} {w W : World} {bl : List (Nat × TypeId × Array Value)} {p : World → Prop} (h : Fr A w W bl p) : p W := Foot.now h.tr
theorem Fr.out {A : Nat → Prop} {w W : World} {bl : List (Nat × TypeId × Array Value)} {p : World → Prop} (h : Fr A w W bl p) : Tr A W p := Tr.less h.tr (fun _ _ g => .inl g)
theorem Fr.cell {A : Nat → Prop} {w W : World} {bl bl' : List (Nat × TypeId × Array Value)} {p : World → Prop} {g : Nat} {t : TypeId} {cs : Array Value} (h : Fr A w W bl p) (ha : At bl g t cs cs bl') (j : Nat) : W.cell? ⟨g, j, none⟩ = cs[j]? := blk_cell (h.blk _ ha.mem).1 j
theorem Fr.frozen {A : Nat → Prop} {w W : World} {bl bl' : List (Nat × TypeId × Array Value)} {p : World → Prop} {g : Nat} {t : TypeId} {cs : Array Value} (h : Fr A w W bl p) (ha : At bl g t cs cs bl') (j : Nat) : W.frozen? ⟨g, j, none⟩ = false := blk_frozen (h.blk _ ha.mem).1 j
section
variable {P : Program} {ops : Array Oper} {rest : List Oper} {o : Oper} {a : Act} {Q : Exit → Act → World → Prop} {A : Nat → Prop} {w W : World} {bl bl' : List (Nat × TypeId × Array Value)} {p : World → Prop}
theorem fr_pure {N : Tmp} (_hd : o.dst = some N) (hgd : o.guard = none) {v : Value} (hrun : ∀ W (K : Result Next → Prop), Hid (K (.ok (.value v) W)) → K ((execOp a.eval o).run P W))
    (h : wpList P ops Q rest (a.put o.dst v) W) : wpList P ops Q (o :: rest) a W := by
  have hr : (execOp a.eval o).run P W = .ok (.value v) W := hrun W (fun r => r = .ok (.value v) W) (Lib.hid rfl)
  refine wpList_plain hgd fun K hK => ?_
  unfold Oper.wp
  rw [hr]
  exact hK _ _ h
theorem fr_new (H : Fr A w W bl p) {N : Tmp} (hd : o.dst = some N) (hgd : o.guard = none) {cs : Array Value} {t : TypeId}
    (hrun : (execOp a.eval o).run P W = .ok (.value (.pointer (some ⟨W.heap.size, 0, none⟩))) (W.alloc (.cells cs t (0, 0))))
    (h : ∀ g w1, Fr A w w1 ((g, t, cs) :: bl) p → wpList P ops Q rest (a.put o.dst (.pointer (some ⟨g, 0, none⟩))) w1) : wpList P ops Q (o :: rest) a W :=
  box_event hgd hd hrun fun g hg w1 hb hB => h g w1 (H.alloc hg hb hB)
theorem fr_box (H : Fr A w W bl p) {t : TypeId} {x : Operand} (ho : o.op = .box t x) (hgd : o.guard = none) {cs : Array Value} (hx : a.eval x = .agg cs)
    (h : ∀ g w1, Fr A w w1 ((g, t, cs) :: bl) p → wpList P ops Q rest (a.put o.dst (.pointer (some ⟨g, 0, none⟩))) w1) : wpList P ops Q (o :: rest) a W := by
  refine Kd.event_run hgd ?_ (h _ _ (H.alloc rfl (blk_new W (.cells cs t (0, 0))) (below_alloc (Below.refl _ _) _)))
  simp [execOp, ho, Instr.box, newVar, newRow, newObj, hx]
  rfl
theorem fr_put (H : Fr A w W bl p) {t : TypeId} {x v : Operand} (ho : o.op = .store t x v) (hN : o.dst = none) (hgd : o.guard = none) {g : Nat} {e : TypeId} {old cs : Array Value}
    (hp : a.eval x = .pointer (some ⟨g, 0, none⟩)) (hv : a.eval v = .agg cs) (ha : At bl g e old cs bl') (hs : cs.size = old.size) (ht : (P.info? t).map (·.size) = some cs.size) (h1 : ∀ q ∈ cs.toList, q.oneCell' = true)
    (h : ∀ w1, Fr A w w1 bl' p → wpList P ops Q rest a w1) : wpList P ops Q (o :: rest) a W := by
  have hg := (H.blk _ ha.mem).1
  refine wpList_plain hgd fun K hK => ?_
  have hr := run_store_run (P := P) (w := W) (g := g) (o := 0) (e := e) (cur := old) t (.agg cs) cs.toList hg rfl (by rw [ht, Array.length_toList]) (by rw [Array.length_toList]; omega) h1
  unfold Oper.wp execOp
  simp only [ho, hp, hv, hr, Sem.run_bind, Sem.run_pure, Result.andThen_ok]
  show K (a.put o.dst undef) _
  rw [hN]
  refine hK _ _ (h _ (H.put ha ?_ ?_ ?_ ?_))
  · obtain ⟨cur', h3, h4, h5⟩ := setCells_row cs.toList 0 W old hg (by rw [Array.length_toList]; omega)
    have h6 : cur' = cs := by
      apply Array.ext'
      rw [h5, List.take_zero, List.nil_append, List.drop_eq_nil_of_le (by rw [Array.length_toList, Array.length_toList]; omega), List.append_nil]
    rw [h3, h6]
  · obtain ⟨s1, s2, s3, s4⟩ := setCells_same g cs.toList 0 W
    exact ⟨s1, s2, s3, by rw [s4]; exact Nat.le_refl _, fun k _ hk => setCells_far _ _ k (fun he => hk (by rw [he]))⟩
  · exact fun k hk => setCells_far _ _ k hk
  · exact (setCells_same g cs.toList 0 W).2.2.2
theorem fr_set (H : Fr A w W bl p) {t : TypeId} {x v : Operand} (ho : o.op = .store t x v) (hN : o.dst = none) (hgd : o.guard = none) {g j : Nat} {e : TypeId} {old cs : Array Value} {u : Value}
    (hp : a.eval x = .pointer (some ⟨g, j, none⟩)) (hv : a.eval v = u) (ha : At bl g e old cs bl') (hs : j + u.cells.size ≤ old.size) (hcs : cs.toList = old.toList.take j ++ u.cells.toList ++ old.toList.drop (j + u.cells.size)) (ht : (P.info? t).map (·.size) = some u.cells.size) (h1 : ∀ q ∈ u.cells.toList, q.oneCell' = true)
    (h : ∀ w1, Fr A w w1 bl' p → wpList P ops Q rest a w1) : wpList P ops Q (o :: rest) a W := by
  have hg := (H.blk _ ha.mem).1
  refine wpList_plain hgd fun K hK => ?_
  have hr := run_store_run (P := P) (w := W) (g := g) (o := j) (e := e) (cur := old) t u u.cells.toList hg rfl (by rw [ht, Array.length_toList]) (by rw [Array.length_toList]; omega) h1
  unfold Oper.wp execOp
  simp only [ho, hp, hv, hr, Sem.run_bind, Sem.run_pure, Result.andThen_ok]
  show K (a.put o.dst undef) _
  rw [hN]
  refine hK _ _ (h _ (H.put ha ?_ ?_ ?_ ?_))
  · obtain ⟨cur', h3, h4, h5⟩ := setCells_row u.cells.toList j W old hg (by rw [Array.length_toList]; omega)
    have h6 : cur' = cs := by
      apply Array.ext'
      rw [h5, hcs, Array.length_toList]
    rw [h3, h6]
  · obtain ⟨s1, s2, s3, s4⟩ := setCells_same g u.cells.toList j W
    exact ⟨s1, s2, s3, by rw [s4]; exact Nat.le_refl _, fun k _ hk => setCells_far _ _ k (fun he => hk (by rw [he]))⟩
  · exact fun k hk => setCells_far _ _ k hk
  · exact (setCells_same g u.cells.toList j W).2.2.2
theorem fr_load (H : Fr A w W bl p) {ty : TypeId} {x : Operand} (ho : o.op = .load ty x) (hgd : o.guard = none) {g : Nat} {e : TypeId} {cs : Array Value} {d : TypeDesc}
    (hx : a.eval x = .pointer (some ⟨g, 0, none⟩)) (ha : At bl g e cs cs bl') (hu : P.underlying ty = some d) (hd : (match d with | .struct _ | .array _ _ => true | _ => false) = true) (hi : (P.info? ty).map (·.size) = some cs.size)
    (h : wpList P ops Q rest (a.put o.dst (.agg cs)) W) : wpList P ops Q (o :: rest) a W :=
  wpList_load_row hgd ty x ho g hx e cs (0, 0) d (H.blk _ ha.mem).1 hu hd hi h
theorem load_cell {ty : TypeId} {x : Operand} (ho : o.op = .load ty x) (hgd : o.guard = none) {ad : Addr} {d : TypeDesc} {v : Value}
    (hx : a.eval x = .pointer (some ad)) (hu : P.underlying ty = some d) (hd : (match d with | .struct _ | .array _ _ => true | _ => false) = false) (hc : W.cell? ad = some v)
    (h : wpList P ops Q rest (a.put o.dst v) W) : wpList P ops Q (o :: rest) a W := by
  refine wpList_plain hgd fun K hK => ?_
  have hagg : (isAgg ty).run P W = .ok false W := by
    unfold isAgg
    rw [Sem.run_bind, run_underlying hu W]
    cases d <;> simp_all
  have hlv : (loadVar ty ad).run P W = .ok v W := by simp [loadVar, Sem.run_bind, hagg, hc]
  unfold Oper.wp execOp
  simp only [ho, hx, Instr.loadAt, Instr.sureAddr, Sem.run_bind, Sem.run_pure, Result.andThen_ok, hlv]
  exact hK _ _ h
theorem fr_get (H : Fr A w W bl p) {ty : TypeId} {x : Operand} (ho : o.op = .load ty x) (hgd : o.guard = none) {g j : Nat} {e : TypeId} {cs : Array Value} {d : TypeDesc} {v : Value}
    (hx : a.eval x = .pointer (some ⟨g, j, none⟩)) (ha : At bl g e cs cs bl') (hu : P.underlying ty = some d) (hd : (match d with | .struct _ | .array _ _ => true | _ => false) = false) (hc : cs[j]? = some v)
    (h : wpList P ops Q rest (a.put o.dst v) W) : wpList P ops Q (o :: rest) a W :=
  load_cell ho hgd hx hu hd ((H.cell ha j).trans hc) h
theorem load_cells {ty : TypeId} {x : Operand} (ho : o.op = .load ty x) (hgd : o.guard = none) {ad : Addr} {d : TypeDesc} {cs : List Value}
    (hx : a.eval x = .pointer (some ad)) (hu : P.underlying ty = some d) (hd : (match d with | .struct _ | .array _ _ => true | _ => false) = true) (hi : (P.info? ty).map (·.size) = some cs.length) (hc : ∀ j u, cs[j]? = some u → W.cell? (ad.add j) = some u)
    (h : wpList P ops Q rest (a.put o.dst (.agg cs.toArray)) W) : wpList P ops Q (o :: rest) a W := by
  refine wpList_plain hgd fun K hK => ?_
  have hagg : (isAgg ty).run P W = .ok true W := by
    unfold isAgg
    rw [Sem.run_bind, run_underlying hu W]
    cases d <;> simp_all
  obtain ⟨i, hq, hs⟩ := Option.map_eq_some_iff.1 hi
  have hl := run_loadCells_list (P := P) W ad cs hc
  have hlv : (loadVar ty ad).run P W = .ok (.agg cs.toArray) W := by simp [loadVar, Sem.run_bind, hagg, sizeOf, typeInfo, hq, hs, hl]
  unfold Oper.wp execOp
  simp only [ho, hx, Instr.loadAt, Instr.sureAddr, Sem.run_bind, Sem.run_pure, Result.andThen_ok, hlv]
  exact hK _ _ h
theorem fr_sub (H : Fr A w W bl p) {ty : TypeId} {x : Operand} (ho : o.op = .load ty x) (hgd : o.guard = none) {g j n : Nat} {e : TypeId} {cs : Array Value} {d : TypeDesc} {vs : List Value}
    (hx : a.eval x = .pointer (some ⟨g, j, none⟩)) (ha : At bl g e cs cs bl') (hu : P.underlying ty = some d) (hd : (match d with | .struct _ | .array _ _ => true | _ => false) = true) (hi : (P.info? ty).map (·.size) = some n) (hv : (cs.toList.drop j).take n = vs) (hn : n = vs.length)
    (h : wpList P ops Q rest (a.put o.dst (.agg vs.toArray)) W) : wpList P ops Q (o :: rest) a W := by
  refine load_cells ho hgd hx hu hd (hn ▸ hi) (fun i u hu => ?_) h
  have hi : i < n := by rw [hn]; exact (List.getElem?_eq_some_iff.1 hu).1
  rw [← hv, List.getElem?_take, if_pos hi, List.getElem?_drop] at hu
  have hc := H.cell ha (j + i)
  rw [show ((⟨g, j, none⟩ : Addr).add i) = ⟨g, j + i, none⟩ by
    unfold Addr.add
    split
    · rename_i h0; rw [h0]; rfl
    · rfl, hc]
  simpa using hu
end
section
variable {P : Program} {ops : Array Oper} {rest : List Oper} {o : Oper} {a : Act} {Q : Act → Prop} {A : Nat → Prop} {w : World} {bl bl' : List (Nat × TypeId × Array Value)} {p : World → Prop}
def Frs (A : Nat → Prop) (w : World) (bl : List (Nat × TypeId × Array Value)) (p : World → Prop) : World → Prop := fun W => Fr A w W bl p
end
end Go.Proofs.YtbmfgcekglgliaaGreatEv

namespace Go.Proofs.YtbmfgcekglgliaaGreatRx
open Go.RowKit Go.Proofs.YtbmfgcekglgliaaGreatW.PrintWords Go.Proofs.YtbmfgcekglgliaaGreatW.PrintLast Go.Proofs.YtbmfgcekglgliaaGreatW.PrintMore Go.Proofs.YtbmfgcekglgliaaGreatEv
def pre (n k : Nat) : Array Bool := (List.replicate k true ++ List.replicate (n - k) false).toArray
section
variable {P : Program} {ops : Array Oper} {Q : Exit → Act → World → Prop} {S : World → Prop} {n k : Nat} {a : Act} {w : World} {oi : Oper} {v : Value}
end
section
variable {P : Program} {ops : Array Oper} {Q : Exit → Act → World → Prop} {S : World → Prop} {n k : Nat} {a : Act} {w : World} {oi : Oper} {rest : List Oper} {v : Value}
end
end Go.Proofs.YtbmfgcekglgliaaGreatRx

namespace Go.Proofs.YtbmfgcekglgliaaGreatEm
open Go.RowKit Go.Proofs.YtbmfgcekglgliaaGreatW.PrintWords Go.Proofs.YtbmfgcekglgliaaGreatW.PrintLast Go.Proofs.YtbmfgcekglgliaaGreatW.PrintMore
abbrev Keep (A : Nat → Prop) (W W' : World) : Prop := Go.Proofs.YtbmfgcekglgliaaGreatEv.Keep A W W'
abbrev Tr (A : Nat → Prop) (W : World) (p : World → Prop) : Prop := Go.Proofs.YtbmfgcekglgliaaGreatEv.Tr A W p
abbrev reps_one := @Go.Proofs.YtbmfgcekglgliaaGreatEv.reps_one
abbrev load_cell := @Go.Proofs.YtbmfgcekglgliaaGreatEv.load_cell
abbrev load_cells := @Go.Proofs.YtbmfgcekglgliaaGreatEv.load_cells
set_option linter.unusedVariables false
abbrev Keep.of_below := @Go.Proofs.YtbmfgcekglgliaaGreatEv.Keep.of_below
abbrev Keep.refl := @Go.Proofs.YtbmfgcekglgliaaGreatEv.Keep.refl
abbrev Keep.trans := @Go.Proofs.YtbmfgcekglgliaaGreatEv.Keep.trans
abbrev Keep.mono := @Go.Proofs.YtbmfgcekglgliaaGreatEv.Keep.mono
abbrev Tr.keep := @Go.Proofs.YtbmfgcekglgliaaGreatEv.Tr.keep
abbrev Tr.less := @Go.Proofs.YtbmfgcekglgliaaGreatEv.Tr.less
abbrev Tr.and := @Go.Proofs.YtbmfgcekglgliaaGreatEv.Tr.and
structure Chg (M : Nat → Prop) (w W : World) : Prop where
  os : W.os = w.os
  tape : W.tape = w.tape
  output : W.output = w.output
  size : w.heap.size ≤ W.heap.size
  block : ∀ k, k < w.heap.size → ¬ M k → W.heap[k]? = w.heap[k]?
theorem Chg.refl (M : Nat → Prop) (w : World) : Chg M w w := ⟨rfl, rfl, rfl, Nat.le_refl _, fun _ _ _ => rfl⟩
theorem Chg.trans {M : Nat → Prop} {a b c : World} (h : Chg M a b) (g : Chg M b c) : Chg M a c :=
  ⟨g.os.trans h.os, g.tape.trans h.tape, g.output.trans h.output, Nat.le_trans h.size g.size, fun k hk hm => (g.block k (Nat.lt_of_lt_of_le hk h.size) hm).trans (h.block k hk hm)⟩
theorem Chg.mono {M M' : Nat → Prop} {w W : World} (h : Chg M w W) (hm : ∀ k, k < w.heap.size → M k → M' k) : Chg M' w W := ⟨h.os, h.tape, h.output, h.size, fun k hk hn => h.block k hk (fun q => hn (hm k hk q))⟩
theorem Chg.of_below {M : Nat → Prop} {w W : World} (h : Below w.heap.size w W) : Chg M w W := ⟨h.os, h.tape, h.output, h.size, fun k hk _ => h.block k hk⟩
theorem Chg.below {w W : World} (h : Chg (fun _ => False) w W) : Below w.heap.size w W := ⟨h.os, h.tape, h.output, h.size, fun k hk => h.block k hk id⟩
theorem Chg.keep {M : Nat → Prop} {w W : World} (h : Chg M w W) : Keep M w W := ⟨h.size, h.block⟩
theorem Chg.of_grown {M : Nat → Prop} {w W : World} {r : Option Nat} (h : w.grownBy W r) (hr : ∀ k, r = some k → k < w.heap.size → M k) : Chg M w W := ⟨h.os, h.tape, h.output, h.size, fun k hk hn => h.block k hk (fun e => hn (hr k e.symm hk))⟩
theorem Chg.grown {w W : World} {g : Nat} (h : Chg (fun k => k = g) w W) : w.grownBy W (some g) := ⟨h.os, h.tape, h.output, h.size, fun k hk hn => h.block k hk (fun e => hn (by rw [e]))⟩
def Of (bl : List (Nat × Obj)) (k : Nat) : Prop := ∃ x, x ∈ bl ∧ x.1 = k
structure Fr (M A : Nat → Prop) (w W : World) (bl : List (Nat × Obj)) (p : World → Prop) : Prop where
  av : ∀ k, A k → k < w.heap.size
  chg : Chg M w W
  blk : ∀ x, x ∈ bl → W.heap[x.1]? = some x.2 ∧ (w.heap.size ≤ x.1 ∨ M x.1)
  nd : bl.Pairwise (fun x y => x.1 ≠ y.1)
  tr : Tr (fun k => A k ∨ Of bl k) W p
theorem Fr.start {M A : Nat → Prop} {w : World} {bl : List (Nat × Obj)} {p : World → Prop} (hA : ∀ k, A k → k < w.heap.size) (hb : ∀ x, x ∈ bl → w.heap[x.1]? = some x.2 ∧ M x.1) (nd : bl.Pairwise (fun x y => x.1 ≠ y.1)) (h : Tr (fun k => A k ∨ Of bl k) w p) : Fr M A w w bl p :=
  ⟨hA, Chg.refl _ _, fun x hx => ⟨(hb x hx).1, .inr (hb x hx).2⟩, nd, h⟩
theorem Fr.start0 {M A : Nat → Prop} {w : World} {p : World → Prop} (hA : ∀ k, A k → k < w.heap.size) (h : Tr A w p) : Fr M A w w [] p :=
  Fr.start hA (fun x hx => by simp at hx) List.Pairwise.nil (Tr.less h (fun k _ g => by rcases g with g | ⟨x, hx, _⟩; exact g; simp at hx))
theorem Fr.start1 {M A : Nat → Prop} {w : World} {g : Nat} {o : Obj} {p : World → Prop} (hA : ∀ k, A k → k < w.heap.size) (hb : w.heap[g]? = some o) (hM : M g) (h : Tr (fun k => A k ∨ k = g) w p) : Fr M A w w [(g, o)] p :=
  Fr.start hA (fun x hx => by simp at hx; subst hx; exact ⟨hb, hM⟩) (by simp) (Tr.less h (fun k _ q => q.imp id (fun ⟨x, hx, e⟩ => by simp at hx; subst hx; exact e.symm)))
theorem obj_lt {w : World} {k : Nat} {o : Obj} (h : w.heap[k]? = some o) : k < w.heap.size := by
  rcases Nat.lt_or_ge k w.heap.size with g | g
  · exact g
  · simp [Array.getElem?_eq_none g] at h
theorem Fr.allocO {M A : Nat → Prop} {w W W1 : World} {bl : List (Nat × Obj)} {p : World → Prop} {g : Nat} {ob : Obj} (h : Fr M A w W bl p) (hg : g = W.heap.size) (hb : W1.heap[g]? = some ob) (hB : Below W.heap.size W W1) :
    Fr M A w W1 ((g, ob) :: bl) p := by
  subst hg
  refine ⟨h.av, h.chg.trans (Chg.of_below hB), ?_, ?_, ?_⟩
  · intro x hx
    rcases List.mem_cons.1 hx with rfl | hx
    · exact ⟨hb, .inl h.chg.size⟩
    · obtain ⟨h1, h2⟩ := h.blk x hx
      exact ⟨(hB.block _ (obj_lt h1)).trans h1, h2⟩
  · refine List.Pairwise.cons ?_ h.nd
    intro x hx e
    have := obj_lt (h.blk x hx).1
    have e' : W.heap.size = x.1 := e
    omega
  · refine fun W' k => h.tr W' (fun j ha hj => (k j (fun q => ?_) (by have := hB.size; omega)).trans (hB.block j hj))
    rcases q with q | ⟨x, hx, e⟩
    · exact ha (.inl q)
    · rcases List.mem_cons.1 hx with rfl | hx
      · have e' : W.heap.size = j := e
        omega
      · exact ha (.inr ⟨x, hx, e⟩)
theorem Fr.alloc {M A : Nat → Prop} {w W W1 : World} {bl : List (Nat × Obj)} {p : World → Prop} {g : Nat} {t : TypeId} {cs : Array Value} (h : Fr M A w W bl p) (hg : g = W.heap.size) (hb : W1.heap[g]? = some (.cells cs t (0, 0))) (hB : Below W.heap.size W W1) :
    Fr M A w W1 ((g, .cells cs t (0, 0)) :: bl) p := h.allocO hg hb hB
inductive At : List (Nat × Obj) → Nat → Obj → Obj → List (Nat × Obj) → Prop
  | head {g : Nat} {old new : Obj} {bl : List (Nat × Obj)} : At ((g, old) :: bl) g old new ((g, new) :: bl)
  | tail {g : Nat} {old new : Obj} {x : Nat × Obj} {bl bl' : List (Nat × Obj)} (h : At bl g old new bl') : At (x :: bl) g old new (x :: bl')
theorem At.mem {bl bl' : List (Nat × Obj)} {g : Nat} {old new : Obj} (h : At bl g old new bl') : (g, old) ∈ bl := by
  induction h with
  | head => exact List.mem_cons_self
  | tail _ ih => exact List.mem_cons_of_mem _ ih
theorem At.map {bl bl' : List (Nat × Obj)} {g : Nat} {old new : Obj} (h : At bl g old new bl') : bl'.map (·.1) = bl.map (·.1) := by
  induction h with
  | head => rfl
  | tail _ ih => simp [ih]
theorem At.of {bl bl' : List (Nat × Obj)} {g : Nat} {old new : Obj} (h : At bl g old new bl') (k : Nat) : Of bl' k ↔ Of bl k := by
  have e := h.map
  have h1 : ∀ l : List (Nat × Obj), Of l k ↔ k ∈ l.map (·.1) := fun l => by simp [Of]
  rw [h1, h1, e]
theorem At.other {bl bl' : List (Nat × Obj)} {g : Nat} {old new : Obj} (h : At bl g old new bl') (nd : bl.Pairwise (fun x y => x.1 ≠ y.1)) : ∀ x, x ∈ bl' → x = (g, new) ∨ (x ∈ bl ∧ x.1 ≠ g) := by
  induction h with
  | head =>
    intro x hx
    rcases List.mem_cons.1 hx with rfl | hx
    · exact .inl rfl
    · exact .inr ⟨List.mem_cons_of_mem _ hx, fun e => (List.pairwise_cons.1 nd).1 x hx e.symm⟩
  | tail h ih =>
    intro x hx
    rcases List.mem_cons.1 hx with rfl | hx
    · exact .inr ⟨List.mem_cons_self, fun e => (List.pairwise_cons.1 nd).1 _ h.mem e⟩
    · rcases ih (List.pairwise_cons.1 nd).2 x hx with rfl | ⟨h1, h2⟩
      · exact .inl rfl
      · exact .inr ⟨List.mem_cons_of_mem _ h1, h2⟩
theorem pairwise_map {bl bl' : List (Nat × Obj)} (e : bl'.map (·.1) = bl.map (·.1)) (h : bl.Pairwise (fun x y => x.1 ≠ y.1)) : bl'.Pairwise (fun x y => x.1 ≠ y.1) := by
  have h1 : ∀ l : List (Nat × Obj), l.Pairwise (fun x y => x.1 ≠ y.1) ↔ (l.map (·.1)).Pairwise (· ≠ ·) := fun l => by rw [List.pairwise_map]
  rw [h1] at h ⊢
  rw [e]
  exact h
theorem Fr.turn {M A : Nat → Prop} {w W W1 : World} {bl bl' : List (Nat × Obj)} {p : World → Prop} {g : Nat} {old new : Obj} (h : Fr M A w W bl p) (ha : At bl g old new bl') (hb : W1.heap[g]? = some new) (hc : Chg (fun k => k = g) W W1) : Fr M A w W1 bl' p := by
  have hm := h.blk _ ha.mem
  refine ⟨h.av, ⟨hc.os.trans h.chg.os, hc.tape.trans h.chg.tape, hc.output.trans h.chg.output, Nat.le_trans h.chg.size hc.size, fun k hk hn => ?_⟩, ?_, pairwise_map ha.map h.nd, ?_⟩
  · refine (hc.block k (Nat.lt_of_lt_of_le hk h.chg.size) (fun e => ?_)).trans (h.chg.block k hk hn)
    subst e
    rcases hm.2 with q | q
    · have q' : w.heap.size ≤ k := q
      omega
    · exact hn q
  · intro x hx
    rcases ha.other h.nd x hx with rfl | ⟨h1, h2⟩
    · exact ⟨hb, hm.2⟩
    · exact ⟨(hc.block _ (obj_lt (h.blk x h1).1) h2).trans (h.blk x h1).1, (h.blk x h1).2⟩
  · refine fun W' k => h.tr W' (fun j hn hj => ?_)
    have hjg : j ≠ g := fun e => hn (.inr ⟨_, ha.mem, e.symm⟩)
    exact (k j (fun q => hn (q.imp id (ha.of j).1)) (Nat.lt_of_lt_of_le hj hc.size)).trans (hc.block j hj hjg)
theorem Fr.put {M A : Nat → Prop} {w W W1 : World} {bl bl' : List (Nat × Obj)} {p : World → Prop} {g : Nat} {t : TypeId} {old cs : Array Value} (h : Fr M A w W bl p) (ha : At bl g (.cells old t (0, 0)) (.cells cs t (0, 0)) bl') (hb : W1.heap[g]? = some (.cells cs t (0, 0)))
    (hg : W.grownBy W1 (some g)) (hf : ∀ k, k ≠ g → W1.heap[k]? = W.heap[k]?) (hs : W1.heap.size = W.heap.size) : Fr M A w W1 bl' p :=
  h.turn ha hb (Chg.of_grown hg (fun k e _ => (Option.some.inj e).symm))
theorem Fr.call {M A : Nat → Prop} {w W W1 : World} {bl : List (Nat × Obj)} {p : World → Prop} (h : Fr M A w W bl p) (hB : Below W.heap.size W W1) : Fr M A w W1 bl p :=
  ⟨h.av, h.chg.trans (Chg.of_below hB), fun x hx => ⟨(hB.block _ (obj_lt (h.blk x hx).1)).trans (h.blk x hx).1, (h.blk x hx).2⟩, h.nd, Tr.keep h.tr (Keep.of_below hB)⟩
theorem Fr.call2 {M A : Nat → Prop} {w W W1 : World} {bl : List (Nat × Obj)} {p q : World → Prop} (h : Fr M A w W bl p) (hB : Below W.heap.size W W1) (hq : Tr (fun k => A k ∨ Of bl k) W1 q) : Fr M A w W1 bl (fun W => p W ∧ q W) :=
  ⟨h.av, h.chg.trans (Chg.of_below hB), fun x hx => ⟨(hB.block _ (obj_lt (h.blk x hx).1)).trans (h.blk x hx).1, (h.blk x hx).2⟩, h.nd, Tr.and (Tr.keep h.tr (Keep.of_below hB)) hq⟩
theorem Fr.and {M A : Nat → Prop} {w W : World} {bl : List (Nat × Obj)} {p q : World → Prop} (h : Fr M A w W bl p) (hq : Tr (fun k => A k ∨ Of bl k) W q) : Fr M A w W bl (fun W => p W ∧ q W) := ⟨h.av, h.chg, h.blk, h.nd, Tr.and h.tr hq⟩
theorem Fr.imp {M A : Nat → Prop} {w W : World} {bl : List (Nat × Obj)} {p q : World → Prop} (h : Fr M A w W bl p) (g : ∀ W', p W' → q W') : Fr M A w W bl q := ⟨h.av, h.chg, h.blk, h.nd, Foot.imp h.tr g⟩
theorem Fr.drop {M A : Nat → Prop} {w W : World} {x : Nat × Obj} {bl : List (Nat × Obj)} {p : World → Prop} (h : Fr M A w W (x :: bl) p) : Fr M A w W bl p :=
  ⟨h.av, h.chg, fun y hy => h.blk y (List.mem_cons_of_mem _ hy), (List.pairwise_cons.1 h.nd).2, Tr.less h.tr (fun _ _ g => g.imp id (fun ⟨y, hy, e⟩ => ⟨y, List.mem_cons_of_mem _ hy, e⟩))⟩
theorem Fr.drewN {M A : Nat → Prop} {w W : World} {bl : List (Nat × Obj)} {p : World → Prop} (h : Fr M A w W bl p) (n : Nat) : Fr M A w (W.drewN n) bl p := h.call (pw_below_drewN (Below.refl _ _) n)
theorem Fr.avs {M A : Nat → Prop} {w W : World} {bl : List (Nat × Obj)} {p : World → Prop} (h : Fr M A w W bl p) : ∀ k, (A k ∨ Of bl k) → k < W.heap.size := by
  rintro k (hk | ⟨x, hx, rfl⟩)
  · exact Nat.lt_of_lt_of_le (h.av k hk) h.chg.size
  · exact obj_lt (h.blk x hx).1
theorem Fr.now {M A : Nat → Prop} {w W : World} {bl : List (Nat × Obj)} {p : World → Prop} (h : Fr M A w W bl p) : p W := Foot.now h.tr
theorem Fr.out {M A : Nat → Prop} {w W : World} {bl : List (Nat × Obj)} {p : World → Prop} (h : Fr M A w W bl p) : Tr A W p := Tr.less h.tr (fun _ _ g => .inl g)
theorem Fr.cell {M A : Nat → Prop} {w W : World} {bl bl' : List (Nat × Obj)} {p : World → Prop} {g : Nat} {t : TypeId} {cs : Array Value} (h : Fr M A w W bl p) (ha : At bl g (.cells cs t (0, 0)) (.cells cs t (0, 0)) bl') (j : Nat) : W.cell? ⟨g, j, none⟩ = cs[j]? := blk_cell (h.blk _ ha.mem).1 j
theorem Fr.frozen {M A : Nat → Prop} {w W : World} {bl bl' : List (Nat × Obj)} {p : World → Prop} {g : Nat} {t : TypeId} {cs : Array Value} (h : Fr M A w W bl p) (ha : At bl g (.cells cs t (0, 0)) (.cells cs t (0, 0)) bl') (j : Nat) : W.frozen? ⟨g, j, none⟩ = false := blk_frozen (h.blk _ ha.mem).1 j
theorem Fr.of {M A : Nat → Prop} {w W : World} {bl bl' : List (Nat × Obj)} {p : World → Prop} {g : Nat} {o : Obj} (h : Fr M A w W bl p) (ha : At bl g o o bl') : W.heap[g]? = some o := (h.blk _ ha.mem).1
theorem Fr.below {A : Nat → Prop} {w W : World} {bl : List (Nat × Obj)} {p : World → Prop} (h : Fr (fun _ => False) A w W bl p) : Below w.heap.size w W := h.chg.below
section
variable {P : Program} {ops : Array Oper} {rest : List Oper} {o : Oper} {a : Act} {Q : Exit → Act → World → Prop} {M A : Nat → Prop} {w W : World} {bl bl' : List (Nat × Obj)} {p : World → Prop}
theorem fr_pure {N : Tmp} (_hd : o.dst = some N) (hgd : o.guard = none) {v : Value} (hrun : ∀ W (K : Result Next → Prop), Hid (K (.ok (.value v) W)) → K ((execOp a.eval o).run P W))
    (h : wpList P ops Q rest (a.put o.dst v) W) : wpList P ops Q (o :: rest) a W := by
  have hr : (execOp a.eval o).run P W = .ok (.value v) W := hrun W (fun r => r = .ok (.value v) W) (Lib.hid rfl)
  refine wpList_plain hgd fun K hK => ?_
  unfold Oper.wp
  rw [hr]
  exact hK _ _ h
theorem fr_new (H : Fr M A w W bl p) {N : Tmp} (hd : o.dst = some N) (hgd : o.guard = none) {cs : Array Value} {t : TypeId}
    (hrun : (execOp a.eval o).run P W = .ok (.value (.pointer (some ⟨W.heap.size, 0, none⟩))) (W.alloc (.cells cs t (0, 0))))
    (h : ∀ g w1, Fr M A w w1 ((g, .cells cs t (0, 0)) :: bl) p → wpList P ops Q rest (a.put o.dst (.pointer (some ⟨g, 0, none⟩))) w1) : wpList P ops Q (o :: rest) a W :=
  box_event hgd hd hrun fun g hg w1 hb hB => h g w1 (H.alloc hg hb hB)
theorem fr_rowv (H : Fr M A w W bl p) {N : Tmp} (hd : o.dst = some N) (hgd : o.guard = none) {n : Nat} {cs : Array Value} {t : TypeId}
    (hrun : ∀ K : Result Next → Prop, Hid (K (.ok (.value (.slice (some ⟨W.heap.size, 0, none⟩) n n)) (W.alloc (.cells cs t (0, 0))))) → K ((execOp a.eval o).run P W))
    (h : ∀ g w1, Fr M A w w1 ((g, .cells cs t (0, 0)) :: bl) p → wpList P ops Q rest (a.put o.dst (.slice (some ⟨g, 0, none⟩) n n)) w1) : wpList P ops Q (o :: rest) a W := by
  have hr := hrun (fun r => r = .ok (.value (.slice (some ⟨W.heap.size, 0, none⟩) n n)) (W.alloc (.cells cs t (0, 0)))) (Lib.hid rfl)
  refine wpList_plain hgd fun K hK => ?_
  unfold Oper.wp
  rw [hr]
  exact hK _ _ (h _ _ (H.alloc rfl (blk_new W (.cells cs t (0, 0))) (below_alloc (Below.refl _ _) _)))
theorem fr_box (H : Fr M A w W bl p) {t : TypeId} {x : Operand} (ho : o.op = .box t x) (hgd : o.guard = none) {cs : Array Value} (hx : a.eval x = .agg cs)
    (h : ∀ g w1, Fr M A w w1 ((g, .cells cs t (0, 0)) :: bl) p → wpList P ops Q rest (a.put o.dst (.pointer (some ⟨g, 0, none⟩))) w1) : wpList P ops Q (o :: rest) a W := by
  refine Kd.event_run hgd ?_ (h _ _ (H.alloc rfl (blk_new W (.cells cs t (0, 0))) (below_alloc (Below.refl _ _) _)))
  simp [execOp, ho, Instr.box, newVar, newRow, newObj, hx]
  rfl
theorem fr_put (H : Fr M A w W bl p) {t : TypeId} {x v : Operand} (ho : o.op = .store t x v) (hN : o.dst = none) (hgd : o.guard = none) {g : Nat} {e : TypeId} {old cs : Array Value}
    (hp : a.eval x = .pointer (some ⟨g, 0, none⟩)) (hv : a.eval v = .agg cs) (ha : At bl g (.cells old e (0, 0)) (.cells cs e (0, 0)) bl') (hs : cs.size = old.size) (ht : (P.info? t).map (·.size) = some cs.size) (h1 : ∀ q ∈ cs.toList, q.oneCell' = true)
    (h : ∀ w1, Fr M A w w1 bl' p → wpList P ops Q rest a w1) : wpList P ops Q (o :: rest) a W := by
  have hg := (H.blk _ ha.mem).1
  refine wpList_plain hgd fun K hK => ?_
  have hr := run_store_run (P := P) (w := W) (g := g) (o := 0) (e := e) (cur := old) t (.agg cs) cs.toList hg rfl (by rw [ht, Array.length_toList]) (by rw [Array.length_toList]; omega) h1
  unfold Oper.wp execOp
  simp only [ho, hp, hv, hr, Sem.run_bind, Sem.run_pure, Result.andThen_ok]
  show K (a.put o.dst undef) _
  rw [hN]
  refine hK _ _ (h _ (H.put ha ?_ ?_ ?_ ?_))
  · obtain ⟨cur', h3, h4, h5⟩ := setCells_row cs.toList 0 W old hg (by rw [Array.length_toList]; omega)
    have h6 : cur' = cs := by
      apply Array.ext'
      rw [h5, List.take_zero, List.nil_append, List.drop_eq_nil_of_le (by rw [Array.length_toList, Array.length_toList]; omega), List.append_nil]
    rw [h3, h6]
  · obtain ⟨s1, s2, s3, s4⟩ := setCells_same g cs.toList 0 W
    exact ⟨s1, s2, s3, by rw [s4]; exact Nat.le_refl _, fun k _ hk => setCells_far _ _ k (fun he => hk (by rw [he]))⟩
  · exact fun k hk => setCells_far _ _ k hk
  · exact (setCells_same g cs.toList 0 W).2.2.2
theorem fr_set (H : Fr M A w W bl p) {t : TypeId} {x v : Operand} (ho : o.op = .store t x v) (hN : o.dst = none) (hgd : o.guard = none) {g j : Nat} {e : TypeId} {old cs : Array Value} {u : Value}
    (hp : a.eval x = .pointer (some ⟨g, j, none⟩)) (hv : a.eval v = u) (ha : At bl g (.cells old e (0, 0)) (.cells cs e (0, 0)) bl') (hs : j + u.cells.size ≤ old.size) (hcs : cs.toList = old.toList.take j ++ u.cells.toList ++ old.toList.drop (j + u.cells.size)) (ht : (P.info? t).map (·.size) = some u.cells.size) (h1 : ∀ q ∈ u.cells.toList, q.oneCell' = true)
    (h : ∀ w1, Fr M A w w1 bl' p → wpList P ops Q rest a w1) : wpList P ops Q (o :: rest) a W := by
  have hg := (H.blk _ ha.mem).1
  refine wpList_plain hgd fun K hK => ?_
  have hr := run_store_run (P := P) (w := W) (g := g) (o := j) (e := e) (cur := old) t u u.cells.toList hg rfl (by rw [ht, Array.length_toList]) (by rw [Array.length_toList]; omega) h1
  unfold Oper.wp execOp
  simp only [ho, hp, hv, hr, Sem.run_bind, Sem.run_pure, Result.andThen_ok]
  show K (a.put o.dst undef) _
  rw [hN]
  refine hK _ _ (h _ (H.put ha ?_ ?_ ?_ ?_))
  · obtain ⟨cur', h3, h4, h5⟩ := setCells_row u.cells.toList j W old hg (by rw [Array.length_toList]; omega)
    have h6 : cur' = cs := by
      apply Array.ext'
      rw [h5, hcs, Array.length_toList]
    rw [h3, h6]
  · obtain ⟨s1, s2, s3, s4⟩ := setCells_same g u.cells.toList j W
    exact ⟨s1, s2, s3, by rw [s4]; exact Nat.le_refl _, fun k _ hk => setCells_far _ _ k (fun he => hk (by rw [he]))⟩
  · exact fun k hk => setCells_far _ _ k hk
  · exact (setCells_same g u.cells.toList j W).2.2.2
theorem fr_load (H : Fr M A w W bl p) {ty : TypeId} {x : Operand} (ho : o.op = .load ty x) (hgd : o.guard = none) {g : Nat} {e : TypeId} {cs : Array Value} {d : TypeDesc}
    (hx : a.eval x = .pointer (some ⟨g, 0, none⟩)) (ha : At bl g (.cells cs e (0, 0)) (.cells cs e (0, 0)) bl') (hu : P.underlying ty = some d) (hd : (match d with | .struct _ | .array _ _ => true | _ => false) = true) (hi : (P.info? ty).map (·.size) = some cs.size)
    (h : wpList P ops Q rest (a.put o.dst (.agg cs)) W) : wpList P ops Q (o :: rest) a W :=
  wpList_load_row hgd ty x ho g hx e cs (0, 0) d (H.blk _ ha.mem).1 hu hd hi h
theorem fr_get (H : Fr M A w W bl p) {ty : TypeId} {x : Operand} (ho : o.op = .load ty x) (hgd : o.guard = none) {g j : Nat} {e : TypeId} {cs : Array Value} {d : TypeDesc} {v : Value}
    (hx : a.eval x = .pointer (some ⟨g, j, none⟩)) (ha : At bl g (.cells cs e (0, 0)) (.cells cs e (0, 0)) bl') (hu : P.underlying ty = some d) (hd : (match d with | .struct _ | .array _ _ => true | _ => false) = false) (hc : cs[j]? = some v)
    (h : wpList P ops Q rest (a.put o.dst v) W) : wpList P ops Q (o :: rest) a W :=
  load_cell ho hgd hx hu hd ((H.cell ha j).trans hc) h
theorem fr_sub (H : Fr M A w W bl p) {ty : TypeId} {x : Operand} (ho : o.op = .load ty x) (hgd : o.guard = none) {g j n : Nat} {e : TypeId} {cs : Array Value} {d : TypeDesc} {vs : List Value}
    (hx : a.eval x = .pointer (some ⟨g, j, none⟩)) (ha : At bl g (.cells cs e (0, 0)) (.cells cs e (0, 0)) bl') (hu : P.underlying ty = some d) (hd : (match d with | .struct _ | .array _ _ => true | _ => false) = true) (hi : (P.info? ty).map (·.size) = some n) (hv : (cs.toList.drop j).take n = vs) (hn : n = vs.length)
    (h : wpList P ops Q rest (a.put o.dst (.agg vs.toArray)) W) : wpList P ops Q (o :: rest) a W := by
  refine load_cells ho hgd hx hu hd (hn ▸ hi) (fun i u hu => ?_) h
  have hi : i < n := by rw [hn]; exact (List.getElem?_eq_some_iff.1 hu).1
  rw [← hv, List.getElem?_take, if_pos hi, List.getElem?_drop] at hu
  have hc := H.cell ha (j + i)
  rw [show ((⟨g, j, none⟩ : Addr).add i) = ⟨g, j + i, none⟩ by
    unfold Addr.add
    split
    · rename_i h0; rw [h0]; rfl
    · rfl, hc]
  simpa using hu
end
section
variable {P : Program} {ops : Array Oper} {rest : List Oper} {o : Oper} {a : Act} {Q : Act → Prop} {M A : Nat → Prop} {w : World} {bl bl' : List (Nat × Obj)} {p : World → Prop}
def Frs (M A : Nat → Prop) (w : World) (bl : List (Nat × Obj)) (p : World → Prop) : World → Prop := fun W => Fr M A w W bl p
end
end Go.Proofs.YtbmfgcekglgliaaGreatEm
