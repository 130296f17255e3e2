/- Plain: the farthest is the first to which none is farther. -/
import Derived.Test.YtbjfacfphgnhpaaPlanFar
namespace Go.Proofs.Ytbjfacfphgnhpaa
open Go.RowKit WalkM FloatM
set_option linter.unusedVariables false
theorem sq_nonneg (X : Int) : 0 ≤ X * X := by
  rcases Int.le_total 0 X with h | h
  · exact Int.mul_nonneg h h
  · exact Int.mul_nonneg_of_nonpos_of_nonpos h h
theorem gapZ_nonneg (x y n : Int) : 0 ≤ gapZ x y n := by
  unfold gapZ
  split
  · have a := sq_nonneg (plX x n - plX y n)
    have b := sq_nonneg (plY x n - plY y n)
    omega
  · omega
theorem far_spec (x n : Int) (L : List Int) : ∀ r, 0 < r → ∃ i, i < r ∧ farAt x n L r = (L.getD i 0, gapZ x (L.getD i 0) n) ∧ (∀ k, k < r → gapZ x (L.getD k 0) n ≤ gapZ x (L.getD i 0) n) ∧ ∀ k, k < i → gapZ x (L.getD k 0) n < gapZ x (L.getD i 0) n := by
  intro r
  induction r with
  | zero => intro h; omega
  | succ r ih =>
    intro _
    rw [farAt]
    rcases Nat.eq_zero_or_pos r with h0 | h0
    · subst h0
      have := gapZ_nonneg x (L.getD 0 0) n
      refine ⟨0, by omega, ?_, ?_, fun k hk => by omega⟩
      · rw [farAt, if_pos (by simp only; omega)]
      · intro k hk
        obtain rfl : k = 0 := by omega
        exact Int.le_refl _
    · obtain ⟨i, hi, e, ha, hb⟩ := ih h0
      rw [e]
      simp only
      by_cases hgt : gapZ x (L.getD i 0) n < gapZ x (L.getD r 0) n
      · rw [if_pos hgt]
        refine ⟨r, by omega, rfl, ?_, ?_⟩
        · intro k hk
          rcases Nat.lt_or_ge k r with h | h
          · have := ha k h; omega
          · obtain rfl : k = r := by omega
            exact Int.le_refl _
        · intro k hk
          have := ha k hk
          omega
      · rw [if_neg hgt]
        refine ⟨i, by omega, rfl, ?_, hb⟩
        intro k hk
        rcases Nat.lt_or_ge k r with h | h
        · exact ha k h
        · obtain rfl : k = r := by omega
          omega
/-- the i-th of the list beats or equals all, and all before it -/
def firstB (x n : Int) (L : List Int) (i : Nat) : Nat → Bool
  | 0 => true
  | k + 1 => firstB x n L i k && !(decide (gapZ x (L.getD i 0) n < gapZ x (L.getD k 0) n) || (decide (k < i) && decide (gapZ x (L.getD k 0) n = gapZ x (L.getD i 0) n)))
theorem firstB_iff (x n : Int) (L : List Int) (i : Nat) : ∀ r, firstB x n L i r = true ↔ ∀ k, k < r → ¬ (gapZ x (L.getD i 0) n < gapZ x (L.getD k 0) n) ∧ (k < i → gapZ x (L.getD k 0) n ≠ gapZ x (L.getD i 0) n) := by
  intro r
  induction r with
  | zero => simp [firstB]
  | succ r ih =>
    rw [firstB, Bool.and_eq_true, ih]
    constructor
    · rintro ⟨h1, h2⟩ k hk
      rcases Nat.lt_or_ge k r with h | h
      · exact h1 k h
      · obtain rfl : k = r := by omega
        rw [Bool.not_eq_true', Bool.or_eq_false_iff, Bool.and_eq_false_iff, decide_eq_false_iff_not, decide_eq_false_iff_not, decide_eq_false_iff_not] at h2
        refine ⟨h2.1, fun h e => ?_⟩
        rcases h2.2 with h3 | h3
        · exact h3 h
        · exact h3 e
    · intro h
      refine ⟨fun k hk => h k (by omega), ?_⟩
      obtain ⟨h1, h2⟩ := h r (by omega)
      rw [Bool.not_eq_true', Bool.or_eq_false_iff, Bool.and_eq_false_iff, decide_eq_false_iff_not, decide_eq_false_iff_not, decide_eq_false_iff_not]
      refine ⟨h1, ?_⟩
      by_cases hk : r < i
      · exact Or.inr (h2 hk)
      · exact Or.inl hk
/-- where the reference stops -/
theorem first_is (x n : Int) (L : List Int) (h : 0 < L.length) : ∃ i, i < L.length ∧ farAt x n L L.length = (L.getD i 0, gapZ x (L.getD i 0) n) ∧ firstB x n L i L.length = true ∧ ∀ k, k < i → firstB x n L k L.length = false := by
  obtain ⟨i, hi, e, ha, hb⟩ := far_spec x n L L.length h
  refine ⟨i, hi, e, ?_, ?_⟩
  · rw [firstB_iff]
    intro k hk
    refine ⟨by have := ha k hk; omega, fun h => ?_⟩
    have := hb k h
    omega
  · intro k hk
    rw [← Bool.not_eq_true, firstB_iff]
    intro hall
    have h1 := (hall i hi).1
    have := hb k hk
    omega
end Go.Proofs.Ytbjfacfphgnhpaa
