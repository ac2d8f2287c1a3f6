/- Plain words on numbers: clipped numbers, division down to a whole number. No program in sight. -/
import Derived.Test.YtdnddekoankmmaaWMore
namespace Go.Proofs.YtdnddekoankmmaaPl
open Go.RowKit Go.Proofs.YtdnddekoankmmaaW.PrintWords Go.Proofs.YtdnddekoankmmaaW.PrintMore

def clip (x : Int) : Int := if x < -2305843009213693952 then -2305843009213693952 else if x > 2305843009213693952 then 2305843009213693952 else x
theorem clip_bd (x : Int) : -2305843009213693952 ≤ clip x ∧ clip x ≤ 2305843009213693952 := by unfold clip; split <;> (try split) <;> omega
theorem clip_id {x : Int} (h : -2305843009213693952 ≤ x) (h2 : x ≤ 2305843009213693952) : clip x = x := by unfold clip; rw [if_neg (by omega), if_neg (by omega)]
theorem clip_clip (x : Int) : clip (clip x) = clip x := clip_id (clip_bd x).1 (clip_bd x).2
theorem clip_mono {x y : Int} (h : x ≤ y) : clip x ≤ clip y := by unfold clip; repeat' split <;> omega
theorem wrap_id {x : Int} (h : -9223372036854775808 ≤ x) (h2 : x ≤ 9223372036854775807) : wrap64 x = x := by unfold wrap64; omega
/-- A divisor below 1 counts as 1. -/
def one (c : Int) : Int := if clip c < 1 then 1 else clip c
theorem one_bd (c : Int) : 1 ≤ one c ∧ one c ≤ 2305843009213693952 := by have := clip_bd c; unfold one; split <;> omega
theorem mx_one (c : Int) : mx (clip c) 1 = one c := by unfold mx one; rfl
def dv (a c : Int) : Int := clip a / one c
def md (a c : Int) : Int := clip a % one c
theorem dv_bd (a c : Int) : -2305843009213693952 ≤ dv a c ∧ dv a c ≤ 2305843009213693952 := by
  have h1 := clip_bd a; have h2 := one_bd c
  unfold dv
  constructor
  · exact Int.le_ediv_of_mul_le (by omega) (by
      have : -2305843009213693952 * one c ≤ -2305843009213693952 * 1 := Int.mul_le_mul_of_nonpos_left (by omega) (by omega)
      omega)
  · refine Int.le_trans (Int.ediv_le_ediv (by omega) h1.2) ?_
    exact Int.ediv_le_self _ (by omega)
theorem md_bd (a c : Int) : 0 ≤ md a c ∧ md a c < one c := ⟨Int.emod_nonneg _ (by have := one_bd c; omega), Int.emod_lt_of_pos _ (by have := one_bd c; omega)⟩
theorem dv_md (a c : Int) : one c * dv a c + md a c = clip a := Int.mul_ediv_add_emod _ _
/-- What truncated division tells of the one that goes down. -/
theorem tdown {a c : Int} (hc : 0 < c) : (a.tmod c < 0 → a.tdiv c - 1 = a / c ∧ a.tmod c + c = a % c) ∧ (¬ a.tmod c < 0 → a.tdiv c = a / c ∧ a.tmod c = a % c) := by
  have h1 : c * a.tdiv c + a.tmod c = a := Int.mul_tdiv_add_tmod a c
  have h3 : a.tmod c < c := Int.tmod_lt_of_pos a hc
  have h4 : -c < a.tmod c := by
    have := Int.lt_tmod_of_pos a hc
    omega
  constructor
  · intro h
    have := (Int.ediv_emod_unique (a := a) (r := a.tmod c + c) (q := a.tdiv c - 1) hc).2 ⟨by rw [Int.mul_sub]; omega, by omega, by omega⟩
    exact ⟨this.1.symm, this.2.symm⟩
  · intro h
    have := (Int.ediv_emod_unique (a := a) (r := a.tmod c) (q := a.tdiv c) hc).2 ⟨by omega, by omega, by omega⟩
    exact ⟨this.1.symm, this.2.symm⟩
theorem tdiv_bd {a c : Int} (hc : 1 ≤ c) (h1 : -2305843009213693952 ≤ a) (h2 : a ≤ 2305843009213693952) : -2305843009213693952 ≤ a.tdiv c ∧ a.tdiv c ≤ 2305843009213693953 := by
  have e1 : -2305843009213693952 ≤ a / c := Int.le_ediv_of_mul_le (by omega) (by
      have : -2305843009213693952 * c ≤ -2305843009213693952 * 1 := Int.mul_le_mul_of_nonpos_left (by omega) (by omega)
      omega)
  have e2 : a / c ≤ 2305843009213693952 := by
    refine Int.le_trans (Int.ediv_le_ediv (by omega) h2) ?_
    exact Int.ediv_le_self _ (by omega)
  have h := tdown (a := a) (c := c) (by omega)
  by_cases g : a.tmod c < 0
  · have := h.1 g; omega
  · have := h.2 g; omega
theorem tmod_bd {a c : Int} (hc : 1 ≤ c) : -c < a.tmod c ∧ a.tmod c < c := ⟨by have := Int.lt_tmod_of_pos a (show 0 < c by omega); omega, Int.tmod_lt_of_pos a (by omega)⟩
theorem dv_mono {a b c : Int} (h : a ≤ b) : dv a c ≤ dv b c := Int.ediv_le_ediv (by have := one_bd c; omega) (clip_mono h)
/-- So many numbers, from one on. -/
def runl (s : Int) (c : Nat) : List Int := (List.range c).map fun i : Nat => s + (i : Int)
theorem runl_zero (s : Int) : runl s 0 = [] := rfl
theorem runl_len (s : Int) (c : Nat) : (runl s c).length = c := by simp [runl]
theorem runl_add (s : Int) (c d : Nat) : runl s (c + d) = runl s c ++ runl (s + c) d := by
  unfold runl
  rw [List.range_add, List.map_append, List.map_map]
  congr 1
  refine List.map_congr_left fun i _ => ?_
  simp only [Function.comp]
  omega
theorem runl_succ (s : Int) (c : Nat) : runl s (c + 1) = s :: runl (s + 1) c := by
  rw [Nat.add_comm, runl_add, show runl s 1 = [s] by simp [runl]]
  rfl
end Go.Proofs.YtdnddekoankmmaaPl
