/- Plain mathematics: levels below the root, ancestors within a tree. -/
import Derived.Test.YtbjfacfphgnhpaaWalkMath
namespace Go.Proofs.Ytbjfacfphgnhpaa.WalkM

theorem lev_root {x d l : Nat} (hx : x + 1 < 2 ^ (d + 1)) (hl : IsLev x l) : l ≤ d ∧ (l = d ↔ x = 2 ^ d - 1) := by
  have hd := pow_pos' d
  unfold IsLev at hl
  rw [Nat.pow_succ] at hx
  by_cases h : l ≤ d
  · refine ⟨h, ?_, ?_⟩
    · rintro rfl
      rw [Nat.mod_eq_of_lt (by rw [Nat.pow_succ]; omega)] at hl
      exact hl
    · intro e
      have h2 : IsLev x d := by
        unfold IsLev
        rw [Nat.mod_eq_of_lt (by rw [Nat.pow_succ]; omega)]
        exact e
      exact lev_unique hl h2
  · exfalso
    have h1 : 2 ^ (d + 1) ≤ 2 ^ l := Nat.pow_le_pow_right (by omega) (by omega)
    rw [Nat.pow_succ] at h1
    rw [Nat.mod_eq_of_lt (by rw [Nat.pow_succ]; omega)] at hl
    omega
theorem anc_root {x d : Nat} (hx : x < 2 ^ (d + 1)) : anc x d = 2 ^ d - 1 := by
  unfold anc
  rw [Nat.div_eq_of_lt hx]
  omega
theorem anc_le {x d j : Nat} (hx : x < 2 ^ (d + 1)) (hj : j ≤ d) : anc x j + 1 < 2 ^ (d + 1) := by
  have hp := pow_pos' (j + 1)
  have hq := pow_pos' j
  obtain ⟨e, rfl⟩ : ∃ e, d = j + e := ⟨d - j, by omega⟩
  have h1 : x / 2 ^ (j + 1) < 2 ^ e := by
    rw [Nat.div_lt_iff_lt_mul hp, ← Nat.pow_add]
    rw [show e + (j + 1) = j + e + 1 by omega]; exact hx
  have h2 : (x / 2 ^ (j + 1) + 1) * 2 ^ (j + 1) ≤ 2 ^ e * 2 ^ (j + 1) := Nat.mul_le_mul_right _ h1
  rw [← Nat.pow_add, Nat.add_mul, Nat.one_mul, show e + (j + 1) = j + e + 1 by omega] at h2
  unfold anc
  have h3 : 2 ^ (j + 1) = 2 * 2 ^ j := by rw [Nat.pow_succ]; omega
  omega
end Go.Proofs.Ytbjfacfphgnhpaa.WalkM
