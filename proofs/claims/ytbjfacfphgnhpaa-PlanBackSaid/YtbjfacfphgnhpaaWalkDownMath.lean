/- Plain mathematics: the way down from the root: parts, halved. -/
import Derived.Test.YtbjfacfphgnhpaaWalkMath2
namespace Go.Proofs.Ytbjfacfphgnhpaa.WalkM

/-- the first number of the part of the level j in which x lies -/
def plo (x j : Nat) : Nat := x / 2 ^ (j + 1) * 2 ^ (j + 1)
/-- the last one -/
def phi (x j : Nat) : Nat := plo x j + (2 ^ (j + 1) - 2)
theorem anc_plo (x j : Nat) : anc x j = plo x j + (2 ^ j - 1) := rfl
theorem mid_eq (x j : Nat) : (plo x j + phi x j) / 2 = anc x j := by
  have := pow_pos' j
  unfold phi
  rw [anc_plo, Nat.pow_succ]
  omega
theorem halves (x j : Nat) : (plo x j = plo x (j + 1) ∧ phi x j + 1 = anc x (j + 1) ∧ x ≤ anc x (j + 1)) ∨ (plo x j = anc x (j + 1) + 1 ∧ phi x j = phi x (j + 1) ∧ anc x (j + 1) < x) := by
  have hb := anc_bounds x j
  have hp := pow_pos' j
  have e2 : x / 2 ^ (j + 1 + 1) = x / 2 ^ (j + 1) / 2 := by rw [Nat.pow_succ 2 (j + 1), Nat.div_div_eq_div_mul]
  have e3 : 2 ^ (j + 1 + 1) = 2 * 2 ^ (j + 1) := by rw [Nat.pow_succ 2 (j + 1)]; omega
  have e4 : 2 ^ (j + 1) = 2 * 2 ^ j := by rw [Nat.pow_succ]; omega
  have e5 : 2 ^ (j + 1 + 1) = 4 * 2 ^ j := by rw [e3, e4]; omega
  unfold phi
  rw [anc_plo]
  unfold plo
  rw [e2]
  obtain ⟨q, hq⟩ : ∃ q, q = x / 2 ^ (j + 1) := ⟨_, rfl⟩
  rw [← hq] at hb ⊢
  rcases Nat.mod_two_eq_zero_or_one q with h | h
  · obtain ⟨r, rfl⟩ : ∃ r, q = 2 * r := ⟨q / 2, by omega⟩
    left
    have e6 : 2 * r * 2 ^ (j + 1) = 2 * r / 2 * 2 ^ (j + 1 + 1) := by
      rw [Nat.mul_div_cancel_left _ (by omega), e3, ← Nat.mul_assoc, Nat.mul_comm r 2]
    rw [e6] at hb ⊢
    rw [e5, e4] at *
    refine ⟨rfl, ?_, ?_⟩ <;> omega
  · obtain ⟨r, rfl⟩ : ∃ r, q = 2 * r + 1 := ⟨q / 2, by omega⟩
    right
    have e6 : (2 * r + 1) * 2 ^ (j + 1) = (2 * r + 1) / 2 * 2 ^ (j + 1 + 1) + 2 ^ (j + 1) := by
      rw [show (2 * r + 1) / 2 = r by omega, Nat.add_mul, e3, Nat.one_mul, ← Nat.mul_assoc, Nat.mul_comm r 2]
    rw [e6] at hb ⊢
    rw [e5, e4] at *
    refine ⟨?_, ?_, ?_⟩ <;> omega
theorem plo_root {x d : Nat} (hx : x < 2 ^ (d + 1)) : plo x d = 0 := by
  unfold plo
  rw [Nat.div_eq_of_lt hx, Nat.zero_mul]
theorem phi_root {x d : Nat} (hx : x < 2 ^ (d + 1)) : phi x d = 2 ^ (d + 1) - 2 := by
  unfold phi
  rw [plo_root hx]
  omega
theorem phi_le {x d j : Nat} (hx : x < 2 ^ (d + 1)) (hj : j ≤ d) : phi x j + 2 ≤ 2 ^ (d + 1) := by
  have h := anc_le hx hj
  have hp := pow_pos' j
  have hq := pow_pos' (j + 1)
  obtain ⟨e, rfl⟩ : ∃ e, d = j + e := ⟨d - j, by omega⟩
  have h1 : x / 2 ^ (j + 1) < 2 ^ e := by
    rw [Nat.div_lt_iff_lt_mul hq, ← Nat.pow_add]
    rw [show e + (j + 1) = j + e + 1 by omega]; exact hx
  have h2 : (x / 2 ^ (j + 1) + 1) * 2 ^ (j + 1) ≤ 2 ^ e * 2 ^ (j + 1) := Nat.mul_le_mul_right _ h1
  rw [← Nat.pow_add, Nat.add_mul, Nat.one_mul, show e + (j + 1) = j + e + 1 by omega] at h2
  unfold phi plo
  have h3 : 2 ^ (j + 1) = 2 * 2 ^ j := by rw [Nat.pow_succ]; omega
  omega
theorem anc_ne {x j : Nat} (h : ¬ IsLev x j) : anc x j ≠ x := by
  intro e
  exact h (e ▸ anc_lev x j)
end Go.Proofs.Ytbjfacfphgnhpaa.WalkM
