/- vote, plainly: a text tells each table from every other one. -/
import Derived.Test.YtdabedknidkimaaDoorVd
namespace Go.Proofs.YtdabedknidkimaaDoor.Vt
open Go.RowKit Go.Proofs.YtdabedknidkimaaDoorW.PrintWords Go.Proofs.YtdabedknidkimaaDoorW.PrintLast Go.Proofs.YtdabedknidkimaaDoorW.PrintMore Go.Proofs.YtdabedknidkimaaDoor.X
set_option linter.unusedVariables false
set_option linter.unusedSimpArgs false
/-- What a numeral tells. -/
def val (l : List UInt8) : Nat := l.foldl (fun a d => a * 10 + (d.toNat - 48)) 0
theorem val_snoc (l : List UInt8) (d : UInt8) : val (l ++ [d]) = val l * 10 + (d.toNat - 48) := by simp [val]
theorem dig_nat (d : Nat) (h : d < 10) : (UInt8.ofNat (48 + d)).toNat = 48 + d := by
  rw [UInt8.toNat_ofNat']
  omega
theorem val_dec (u : Nat) : val (Lib.decDigits u) = u := by
  induction u using Nat.strongRecOn with
  | _ u ih =>
    rw [Lib.decDigits]
    split
    · rename_i h
      show 0 * 10 + ((UInt8.ofNat (48 + u)).toNat - 48) = u
      rw [dig_nat u h]
      omega
    · rename_i h
      rw [val_snoc, ih (u / 10) (by omega), dig_nat (u % 10) (Nat.mod_lt _ (by omega))]
      omega
theorem dec_dig (u : Nat) : ∀ d ∈ Lib.decDigits u, 48 ≤ d.toNat ∧ d.toNat ≤ 57 := by
  induction u using Nat.strongRecOn with
  | _ u ih =>
    rw [Lib.decDigits]
    split
    · rename_i h
      intro d hd
      rw [List.mem_singleton.1 hd, dig_nat u h]
      omega
    · rename_i h
      intro d hd
      rcases List.mem_append.1 hd with hd | hd
      · exact ih (u / 10) (by omega) d hd
      · rw [List.mem_singleton.1 hd, dig_nat (u % 10) (Nat.mod_lt _ (by omega))]
        omega
theorem dec_ne (u : Nat) : Lib.decDigits u ≠ [] := by
  rw [Lib.decDigits]
  split
  · simp
  · simp
theorem itoa_dig (n : Int) : ∀ d ∈ Lib.itoa n, d.toNat < 58 := by
  intro d hd
  unfold Lib.itoa at hd
  split at hd
  · rcases List.mem_cons.1 hd with rfl | hd
    · decide
    · have := dec_dig _ d hd; omega
  · have := dec_dig _ d hd; omega
theorem itoa_inj {a b : Int} (h : Lib.itoa a = Lib.itoa b) : a = b := by
  unfold Lib.itoa at h
  have hno : ∀ (u v : Nat), (45 :: Lib.decDigits u) ≠ Lib.decDigits v := fun u v e => by
    have := dec_dig v 45 (by rw [← e]; exact List.mem_cons_self)
    have h2 : (45 : UInt8).toNat = 45 := rfl
    omega
  split at h
  · split at h
    · injection h with _ h
      have := congrArg val h
      rw [val_dec, val_dec] at this
      omega
    · exact absurd h (hno _ _)
  · split at h
    · exact absurd h.symm (hno _ _)
    · have := congrArg val h
      rw [val_dec, val_dec] at this
      omega
theorem sep_inj (s : UInt8) : ∀ (p q r t : List UInt8), (∀ d ∈ p, d ≠ s) → (∀ d ∈ q, d ≠ s) → p ++ s :: r = q ++ s :: t → p = q ∧ r = t
  | [], [], r, t, _, _, h => by
    injection h with _ h
    exact ⟨rfl, h⟩
  | [], y :: q, r, t, _, hq, h => by
    injection h with h _
    exact absurd h.symm (hq y List.mem_cons_self)
  | x :: p, [], r, t, hp, _, h => by
    injection h with h _
    exact absurd h (hp x List.mem_cons_self)
  | x :: p, y :: q, r, t, hp, hq, h => by
    injection h with h1 h2
    obtain ⟨e1, e2⟩ := sep_inj s p q r t (fun d hd => hp d (List.mem_cons_of_mem _ hd)) (fun d hd => hq d (List.mem_cons_of_mem _ hd)) h2
    exact ⟨by rw [h1, e1], e2⟩
theorem key_inj : ∀ (a b : List S37), keyL a = keyL b → a = b
  | [], [], _ => rfl
  | [], y :: b, h => by
    have := congrArg List.length h
    simp [keyL, ent] at this
  | x :: a, [], h => by
    have := congrArg List.length h
    simp [keyL, ent] at this
  | x :: a, y :: b, h => by
    have e : ∀ (z : S37) (c : List S37), keyL (z :: c) = Lib.itoa z.f0 ++ 58 :: (Lib.itoa z.f1 ++ 59 :: keyL c) := fun z c => by simp [keyL, ent]
    rw [e, e] at h
    have n58 : ∀ (n : Int), ∀ d ∈ Lib.itoa n, d ≠ 58 := fun n d hd e => by
      have := itoa_dig n d hd
      rw [e] at this
      exact absurd this (by decide)
    have n59 : ∀ (n : Int), ∀ d ∈ Lib.itoa n, d ≠ 59 := fun n d hd e => by
      have := itoa_dig n d hd
      rw [e] at this
      exact absurd this (by decide)
    obtain ⟨h1, h2⟩ := sep_inj 58 _ _ _ _ (n58 _) (n58 _) h
    obtain ⟨h3, h4⟩ := sep_inj 59 _ _ _ _ (n59 _) (n59 _) h2
    have := key_inj a b h4
    have e1 := itoa_inj h1
    have e2 := itoa_inj h3
    cases x
    cases y
    dsimp only at e1 e2
    rw [this, e1, e2]
theorem keyB_iff (a b : List S37) : keyB a = keyB b ↔ a = b := by
  constructor
  · intro h
    refine key_inj a b ?_
    have := congrArg (fun x => x.data.toList) h
    exact this
  · rintro rfl
    rfl
/-! what the document tells of the two tables -/
def ta : List S37 := [⟨86401, 1⟩]
def tb0 : List S37 := [⟨86399, -1⟩]
theorem gd_ta : gd ta = true := by kernel_rfl
theorem gd_tb0 : gd tb0 = true := by kernel_rfl
theorem ta_ne : keyB ta ≠ keyB tb0 := fun h => by
  have := (keyB_iff _ _).1 h
  have := congrArg (fun l => l.map (·.f0)) this
  exact absurd this (by decide)
theorem okT_ta : okT ta := ⟨by decide, fun x hx => by rw [List.mem_singleton.1 hx]; unfold okE; decide⟩
theorem okT_tb0 : okT tb0 := ⟨by decide, fun x hx => by rw [List.mem_singleton.1 hx]; unfold okE; decide⟩
theorem key_ta : keyB ta = ⟨#[56, 54, 52, 48, 49, 58, 49, 59]⟩ := by
  have h1 : Lib.itoa 86401 = [56, 54, 52, 48, 49] := by
    unfold Lib.itoa
    rw [if_neg (by decide), show (86401 : Int).toNat = 86401 from rfl]
    rw [Lib.decDigits, dif_neg (by decide), Lib.decDigits, dif_neg (by decide), Lib.decDigits, dif_neg (by decide), Lib.decDigits, dif_neg (by decide), Lib.decDigits, dif_pos (by decide)]
    decide
  have h2 : Lib.itoa 1 = [49] := by
    unfold Lib.itoa
    rw [if_neg (by decide), show (1 : Int).toNat = 1 from rfl, Lib.decDigits, dif_pos (by decide)]
    decide
  unfold keyB keyL ta ent
  simp only [List.flatMap_cons, List.flatMap_nil, h1, h2]
  rfl
theorem cnt3 : agr 1 [ta, tb0, ta] = (keyB ta, true) := by
  have hk : keysL [ta, tb0, ta] = [keyB ta, keyB tb0, keyB ta] := by
    unfold keysL
    rw [List.filter_cons_of_pos gd_ta, List.filter_cons_of_pos gd_tb0, List.filter_cons_of_pos gd_ta]
    rfl
  unfold agr
  rw [hk]
  have h1 := ta_ne
  have h2 : keyB tb0 ≠ keyB ta := fun h => h1 h.symm
  generalize keyB ta = x at h1 h2 ⊢
  generalize keyB tb0 = y at h1 h2 ⊢
  simp [Aps.agreed, Aps.pick, Aps.cnt, List.countP_cons, h1, h2]
theorem cnt2 : agr 1 [ta, tb0] = (ByteArray.empty, false) := by
  have hk : keysL [ta, tb0] = [keyB ta, keyB tb0] := by
    unfold keysL
    rw [List.filter_cons_of_pos gd_ta, List.filter_cons_of_pos gd_tb0]
    rfl
  unfold agr
  rw [hk]
  have h1 := ta_ne
  have h2 : keyB tb0 ≠ keyB ta := fun h => h1 h.symm
  generalize keyB ta = x at h1 h2 ⊢
  generalize keyB tb0 = y at h1 h2 ⊢
  simp [Aps.agreed, Aps.pick, Aps.cnt, List.countP_cons, h1, h2]
theorem adopt3 : adoptP 1 [] [ta, tb0, ta] = (ta, true) := by
  unfold adoptP idxK
  rw [cnt3, if_pos rfl, List.findIdx_cons, decide_eq_true rfl]
  rfl
theorem adopt2 : adoptP 1 [] [ta, tb0] = ([], false) := by
  unfold adoptP
  rw [cnt2, if_neg (by decide)]
end Go.Proofs.YtdabedknidkimaaDoor.Vt
