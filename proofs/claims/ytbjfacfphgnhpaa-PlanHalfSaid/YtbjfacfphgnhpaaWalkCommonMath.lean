/- Plain mathematics: the lowest node above two. -/
import Derived.Test.YtbjfacfphgnhpaaWalkRUnder
namespace Go.Proofs.Ytbjfacfphgnhpaa
open Go.RowKit WalkM
/-- the level of the lowest node above both -/
def com (x y : Nat) : Nat := ((List.range 17).find? fun j => decide (lev x ≤ j) && (decide (lev y ≤ j) && (anc x j == anc y j))).getD 0
def IsCom (x y j : Nat) : Prop := lev x ≤ j ∧ lev y ≤ j ∧ anc x j = anc y j ∧ ∀ i, lev x ≤ i → lev y ≤ i → i < j → anc x i ≠ anc y i
theorem com_of {x y j : Nat} (hj : j ≤ 16) (h : IsCom x y j) : com x y = j := by
  obtain ⟨h1, h2, h3, h4⟩ := h
  have e : (List.range 17).find? (fun j => decide (lev x ≤ j) && (decide (lev y ≤ j) && (anc x j == anc y j))) = some j := by
    rw [List.find?_range_eq_some]
    refine ⟨by simp [h1, h2, h3], List.mem_range.2 (by omega), ?_⟩
    intro i hi
    by_cases a : lev x ≤ i
    · by_cases b : lev y ≤ i
      · simp [h4 i a b hi]
      · simp [b]
    · simp [a]
  rw [com, e]; rfl
theorem com_symm (x y : Nat) : com x y = com y x := by
  unfold com
  congr 2
  funext j
  rw [Bool.eq_iff_iff]
  simp only [Bool.and_eq_true, decide_eq_true_eq, beq_iff_eq]
  constructor
  · rintro ⟨a, b, c⟩; exact ⟨b, a, c.symm⟩
  · rintro ⟨a, b, c⟩; exact ⟨b, a, c.symm⟩
theorem anc_up {x y i j : Nat} (h : anc x i = anc y i) (hij : i ≤ j) : anc x j = anc y j := by
  rw [← anc_anc (x := x) hij, h, anc_anc hij]
/-- what is beneath an ancestor -/
theorem und_anc {x y d j : Nat} (hd : d ≤ 16) (hx : x + 1 < 2 ^ (d + 1)) (hy : y + 1 < 2 ^ (d + 1)) (hj : j ≤ d) : undZ (y : Int) (anc x j : Nat) = decide (lev y ≤ j ∧ anc x j = anc y j) := by
  have h17 := two_pow_le (show d + 1 ≤ 17 by omega)
  have hle := anc_le (show x < 2 ^ (d + 1) by omega) hj
  have hal := anc_lev x j
  have hyl := lev_is (x := y) (by omega)
  rw [und_nat (by omega) (by omega), lev_eq (by omega) hal]
  have e1 : plo (anc x j) j = plo x j := by unfold plo; rw [anc_div (Nat.le_refl j)]
  have e2 : phi (anc x j) j = phi x j := by unfold phi; rw [e1]
  rw [e1, e2]
  apply decide_eq_decide.2
  have hp := pow_pos' (j + 1)
  have hb := anc_bounds y j
  have hm := Nat.div_add_mod y (2 ^ (j + 1))
  have hm2 := Nat.mod_lt y hp
  constructor
  · rintro ⟨a, b⟩
    have hq : y / 2 ^ (j + 1) = x / 2 ^ (j + 1) := by
      unfold phi plo at b
      unfold plo at a
      refine (Nat.div_eq_of_lt_le ?_ ?_)
      · exact a
      · rw [Nat.add_mul, Nat.one_mul]
        have := pow_pos' j
        have e4 : 2 ^ (j + 1) = 2 * 2 ^ j := by rw [Nat.pow_succ]; omega
        omega
    refine ⟨?_, by unfold anc; rw [hq]⟩
    rcases Nat.lt_or_ge j (lev y) with hlt | hge
    · exfalso
      unfold IsLev at hyl
      have h1 : y % 2 ^ (j + 1) = 2 ^ (j + 1) - 1 := by
        have h2 : y % 2 ^ (lev y + 1) % 2 ^ (j + 1) = y % 2 ^ (j + 1) := Nat.mod_mod_of_dvd _ (Nat.pow_dvd_pow 2 (by omega))
        rw [hyl, ones_mod (by omega)] at h2
        exact h2.symm
      unfold phi plo at b
      rw [← hq, Nat.mul_comm] at b
      have := pow_pos' j
      have e4 : 2 ^ (j + 1) = 2 * 2 ^ j := by rw [Nat.pow_succ]; omega
      omega
    · exact hge
  · rintro ⟨a, b⟩
    have hq : x / 2 ^ (j + 1) = y / 2 ^ (j + 1) := by
      rw [← anc_div (x := x) (Nat.le_refl j), b, anc_div (Nat.le_refl j)]
    unfold phi plo
    rw [hq]
    refine ⟨hb.1, ?_⟩
    have e4 : 2 ^ (j + 1) = 2 * 2 ^ j := by rw [Nat.pow_succ]; omega
    have hpj := pow_pos' j
    have hne : y % 2 ^ (j + 1) ≠ 2 ^ (j + 1) - 1 := by
      intro h
      unfold IsLev at hyl
      have h2 : y % 2 ^ (j + 1) % 2 ^ (lev y + 1) = y % 2 ^ (lev y + 1) := Nat.mod_mod_of_dvd _ (Nat.pow_dvd_pow 2 (by omega))
      rw [h, ones_mod (by omega), hyl, Nat.pow_succ] at h2
      have := pow_pos' (lev y)
      omega
    rw [Nat.mul_comm] at hm
    omega
theorem com_ex {x y d : Nat} (hd : d ≤ 16) (hx : x + 1 < 2 ^ (d + 1)) (hy : y + 1 < 2 ^ (d + 1)) : IsCom x y (com x y) ∧ com x y ≤ d := by
  have h17 := two_pow_le (show d + 1 ≤ 17 by omega)
  have hlx := (lev_root hx (lev_is (by omega))).1
  have hly := (lev_root hy (lev_is (by omega))).1
  have hr : anc x d = anc y d := by rw [anc_root (by omega), anc_root (by omega)]
  -- the least one
  have key : ∀ k, (∃ j, j ≤ d ∧ IsCom x y j) ∨ ∀ i, i < k → ¬ (lev x ≤ i ∧ lev y ≤ i ∧ anc x i = anc y i ∧ i ≤ d) := by
    intro k
    induction k with
    | zero => right; intro i hi; omega
    | succ k ih =>
      rcases ih with h | h
      · exact .inl h
      · by_cases hk : lev x ≤ k ∧ lev y ≤ k ∧ anc x k = anc y k ∧ k ≤ d
        · left
          refine ⟨k, hk.2.2.2, hk.1, hk.2.1, hk.2.2.1, ?_⟩
          intro i h1 h2 hik h3
          exact h i hik ⟨h1, h2, h3, by omega⟩
        · right
          intro i hi
          by_cases e : i = k
          · subst e; exact hk
          · exact h i (by omega)
  rcases key (d + 1) with ⟨j, hj, h⟩ | h
  · rw [com_of (by omega) h]; exact ⟨h, hj⟩
  · exact absurd ⟨hlx, hly, hr, Nat.le_refl _⟩ (h d (by omega))
def comZ (x y n : Int) : Int := if (isOf x n && isOf y n) = true then (anc x.toNat (com x.toNat y.toNat) : Nat) else -1
theorem comZ_symm (x y n : Int) : comZ x y n = comZ y x n := by
  unfold comZ
  by_cases h : (isOf x n && isOf y n) = true
  · rw [if_pos h]
    rw [Bool.and_comm] at h
    rw [if_pos h]
    rw [Bool.and_eq_true] at h
    obtain ⟨m, d, rfl, rfl, hd, hm⟩ := isOf_out h.1
    have h2 := isOf_bd h.2
    obtain ⟨q, rfl⟩ : ∃ q : Nat, x = (q : Int) := ⟨x.toNat, by omega⟩
    have h3 := h.2
    rw [isOf_nat hd, decide_eq_true_eq] at h3
    rw [Int.toNat_natCast, Int.toNat_natCast]
    have hc := com_ex hd h3 hm
    rw [hc.1.2.2.1, com_symm]
  · rw [if_neg h]
    rw [Bool.and_comm] at h
    rw [if_neg h]
end Go.Proofs.Ytbjfacfphgnhpaa
