/- Plain mathematics: the leaves beneath a node and beneath its copath's. -/
import Derived.Test.YtbjfacfphgnhpaaWalkBack
import Derived.Test.YtbjfacfphgnhpaaWalkNodes
namespace Go.Proofs.Ytbjfacfphgnhpaa
open Go.RowKit WalkM
set_option linter.unusedVariables false
theorem plo_even (x j : Nat) : plo x j = 2 * (plo x j / 2) := by
  unfold plo
  have e : 2 ^ (j + 1) = 2 * 2 ^ j := by rw [Nat.pow_succ]; omega
  rw [e, ← Nat.mul_assoc, Nat.mul_comm _ 2, Nat.mul_assoc, Nat.mul_div_cancel_left _ (by omega)]
/-- both children of a node lie one level down -/
theorem kids_lev {m : Nat} (hm : m ≤ 131070) {k : Nat} (hk : lev m = k + 1) : IsLev (m - 2 ^ k) k ∧ IsLev (m + 2 ^ k) k ∧ 2 ^ k ≤ m ∧ leftZ m = ((m - 2 ^ k : Nat) : Int) ∧ rightZ m = ((m + 2 ^ k : Nat) : Int) := by
  have hlv := lev_is hm
  rw [hk] at hlv
  have hs := anc_self hlv
  rw [anc_plo] at hs
  have hp := pow_pos' k
  have e1 : 2 ^ (k + 1) = 2 * 2 ^ k := by rw [Nat.pow_succ]; omega
  have e2 : 2 ^ (k + 1 + 1) = 4 * 2 ^ k := by rw [Nat.pow_succ, e1]; omega
  obtain ⟨q, hqq⟩ : ∃ q, q = m / 2 ^ (k + 1 + 1) := ⟨_, rfl⟩
  have hq : plo m (k + 1) = q * 2 ^ (k + 1 + 1) := by unfold plo; rw [hqq]
  have hh : halfZ (m : Int) = ((2 ^ k : Nat) : Int) := by
    rw [halfZ, levZ_nat hm, if_pos (by omega), hk]
    simp
  have ea : m - 2 ^ k = q * 2 ^ (k + 1 + 1) + (2 ^ k - 1) := by omega
  have eb : m + 2 ^ k = q * 2 ^ (k + 1 + 1) + (2 ^ (k + 1) + (2 ^ k - 1)) := by omega
  refine ⟨?_, ?_, by omega, ?_, ?_⟩
  · rw [ea]
    unfold IsLev
    rw [Nat.pow_succ 2 (k + 1), Nat.mul_comm (2 ^ (k + 1)) 2, ← Nat.mul_assoc, Nat.mul_comm, Nat.mul_add_mod]
    exact Nat.mod_eq_of_lt (by omega)
  · rw [eb]
    unfold IsLev
    rw [Nat.pow_succ 2 (k + 1), Nat.mul_comm (2 ^ (k + 1)) 2, ← Nat.mul_assoc, Nat.mul_comm, Nat.mul_add_mod, Nat.add_mod_left]
    exact Nat.mod_eq_of_lt (by omega)
  · rw [leftZ, hh, if_neg (by omega)]; omega
  · rw [rightZ, hh, if_neg (by omega)]; omega
def covLo (m l r : Nat) : Nat := if r = 0 then plo m l / 2 else plo m (l + r - 1) / 2
def covHi (m l r : Nat) : Nat := if r = 0 then plo m l / 2 else plo m (l + r - 1) / 2 + 2 ^ (l + r - 1)
/-- the parts: the node, and its copath's -/
def partsL (m d : Nat) : List Int := (m : Int) :: cops m ((2 ^ d : Nat) : Int) (lev m) (d - lev m)
theorem parts_get {m d r : Nat} (h : r < d - lev m) : (partsL m d).getD (r + 1) 0 = sibZ (anc m (lev m + r) : Nat) ((2 ^ d : Nat) : Int) := by
  unfold partsL cops
  rw [List.getD_cons_succ, List.getD_eq_getElem?_getD, List.getElem?_map, List.getElem?_range h]
  rfl
theorem cover_step {m d : Nat} (hd : d ≤ 16) (hm : m + 1 < 2 ^ (d + 1)) {r : Nat} (hr : r ≤ d - lev m) :
    ∃ f e : Nat, spanZ ((partsL m d).getD r 0) = ((f : Int), (e : Int)) ∧ f ≤ e ∧ e < 2 ^ d ∧
      ((f = covHi m (lev m) r ∧ covLo m (lev m) (r + 1) = covLo m (lev m) r ∧ covHi m (lev m) (r + 1) = e + 1) ∨
       (e + 1 = covLo m (lev m) r ∧ covLo m (lev m) (r + 1) = f ∧ covHi m (lev m) (r + 1) = covHi m (lev m) r)) := by
  have h17 := two_pow_le (show d + 1 ≤ 17 by omega)
  have he : 2 ^ (d + 1) = 2 * 2 ^ d := by rw [Nat.pow_succ]; omega
  have hlv := lev_is (x := m) (by omega)
  have hl := (lev_root hm hlv).1
  have hself := anc_self hlv
  cases r with
  | zero =>
    have hs := span_nat (m := m) (by omega)
    have e0 : (partsL m d).getD 0 0 = (m : Int) := rfl
    have hev := plo_even m (lev m)
    have hph : phi m (lev m) = plo m (lev m) + (2 ^ (lev m + 1) - 2) := rfl
    have hphl := phi_le (x := m) (d := d) (j := lev m) (by omega) hl
    have hp := pow_pos' (lev m)
    rw [Nat.pow_succ] at hph
    refine ⟨plo m (lev m) / 2, phi m (lev m) / 2, ?_, by omega, by omega, .inl ⟨?_, ?_, ?_⟩⟩
    · rw [e0]
      refine Prod.ext ?_ ?_
      · rw [hs.1]; rfl
      · rw [hs.2]; rfl
    · simp [covHi]
    · simp [covLo]
    · simp only [covHi]
      rw [if_neg (by omega), show lev m + (0 + 1) - 1 = lev m by omega]
      omega
  | succ r =>
    rw [parts_get (by omega)]
    obtain ⟨j, hj⟩ : ∃ j, j = lev m + r := ⟨_, rfl⟩
    have hjd : j < d := by omega
    rw [← hj]
    have c1 : covLo m (lev m) (r + 1) = plo m j / 2 := by rw [covLo, if_neg (by omega), show lev m + (r + 1) - 1 = j by omega]
    have c2 : covHi m (lev m) (r + 1) = plo m j / 2 + 2 ^ j := by rw [covHi, if_neg (by omega), show lev m + (r + 1) - 1 = j by omega]
    have c3 : covLo m (lev m) (r + 1 + 1) = plo m (j + 1) / 2 := by rw [covLo, if_neg (by omega), show lev m + (r + 1 + 1) - 1 = j + 1 by omega]
    have c4 : covHi m (lev m) (r + 1 + 1) = plo m (j + 1) / 2 + 2 ^ (j + 1) := by rw [covHi, if_neg (by omega), show lev m + (r + 1 + 1) - 1 = j + 1 by omega]
    rw [c1, c2, c3, c4]
    have hp1 := parZ_anc (x := m) (d := d) (j := j) hd hm (by omega)
    rw [nxt, if_pos hjd] at hp1
    have hale := anc_le (x := m) (d := d) (j := j + 1) (by omega) (by omega)
    have hall := anc_lev m (j + 1)
    have hkl := kids_lev (m := anc m (j + 1)) (by omega) (k := j) (lev_eq (by omega) hall)
    have hh := halves m j
    have hpa : anc m (j + 1) = plo m (j + 1) + (2 ^ (j + 1) - 1) := rfl
    have hpj : anc m j = plo m j + (2 ^ j - 1) := rfl
    have hph : phi m j = plo m j + (2 ^ (j + 1) - 2) := rfl
    have hphl := phi_le (x := m) (d := d) (j := j + 1) (by omega) (by omega)
    have hph2 : phi m (j + 1) = plo m (j + 1) + (2 ^ (j + 1 + 1) - 2) := rfl
    have hev := plo_even m j
    have hev2 := plo_even m (j + 1)
    have hp := pow_pos' j
    have e1 : 2 ^ (j + 1) = 2 * 2 ^ j := by rw [Nat.pow_succ]; omega
    have e2 : 2 ^ (j + 1 + 1) = 4 * 2 ^ j := by rw [Nat.pow_succ, e1]; omega
    obtain ⟨la, lb, hle, ela, elb⟩ := hkl
    have spn : ∀ s : Nat, s ≤ 131070 → IsLev s j → spanZ (s : Int) = (((plo s j / 2 : Nat) : Int), ((phi s j / 2 : Nat) : Int)) ∧ s = plo s j + (2 ^ j - 1) := by
      intro s hs hsl
      have h1 := span_nat hs
      rw [lev_eq hs hsl] at h1
      have h2 := anc_self hsl
      rw [anc_plo] at h2
      exact ⟨Prod.ext (by rw [h1.1]; rfl) (by rw [h1.2]; rfl), h2.symm⟩
    rcases hh with ⟨k1, k2, k3⟩ | ⟨k1, k2, k3⟩
    · -- the left one: the sibling is the right one
      have hs : sibZ (anc m j : Nat) ((2 ^ d : Nat) : Int) = ((anc m (j + 1) + 2 ^ j : Nat) : Int) := by
        have hn0 : ¬ ((anc m (j + 1) : Nat) : Int) < 0 := by omega
        have hlt : ((anc m j : Nat) : Int) < ((anc m (j + 1) : Nat) : Int) := by omega
        rw [sibZ, hp1, if_neg hn0, if_pos hlt, elb]
      obtain ⟨sp, se⟩ := spn (anc m (j + 1) + 2 ^ j) (by omega) lb
      have hev3 := plo_even (anc m (j + 1) + 2 ^ j) j
      have hph3 : phi (anc m (j + 1) + 2 ^ j) j = plo (anc m (j + 1) + 2 ^ j) j + (2 ^ (j + 1) - 2) := rfl
      refine ⟨_, _, by rw [hs]; exact sp, by omega, by omega, .inl ⟨by omega, by omega, by omega⟩⟩
    · have hs : sibZ (anc m j : Nat) ((2 ^ d : Nat) : Int) = ((anc m (j + 1) - 2 ^ j : Nat) : Int) := by
        have hn0 : ¬ ((anc m (j + 1) : Nat) : Int) < 0 := by omega
        have hlt : ¬ ((anc m j : Nat) : Int) < ((anc m (j + 1) : Nat) : Int) := by omega
        rw [sibZ, hp1, if_neg hn0, if_neg hlt, ela]
      obtain ⟨sp, se⟩ := spn (anc m (j + 1) - 2 ^ j) (by omega) la
      have hev3 := plo_even (anc m (j + 1) - 2 ^ j) j
      have hph3 : phi (anc m (j + 1) - 2 ^ j) j = plo (anc m (j + 1) - 2 ^ j) j + (2 ^ (j + 1) - 2) := rfl
      refine ⟨_, _, by rw [hs]; exact sp, by omega, by omega, .inr ⟨by omega, by omega, by omega⟩⟩
theorem cover_end {m d : Nat} (hd : d ≤ 16) (hm : m + 1 < 2 ^ (d + 1)) : covLo m (lev m) (d - lev m + 1) = 0 ∧ covHi m (lev m) (d - lev m + 1) = 2 ^ d := by
  have h17 := two_pow_le (show d + 1 ≤ 17 by omega)
  have hl := (lev_root hm (lev_is (x := m) (by omega))).1
  have e : lev m + (d - lev m + 1) - 1 = d := by omega
  have h := plo_root (show m < 2 ^ (d + 1) by omega)
  rw [covLo, covHi, if_neg (by omega), if_neg (by omega), e, h]
  exact ⟨rfl, by omega⟩
/-- which places have been seen -/
def covL (n lo hi f k : Nat) : List Int := (List.range n).map fun t => if (lo ≤ t ∧ t < hi) ∨ (f ≤ t ∧ t < k) then 1 else 0
theorem covL_len (n lo hi f k : Nat) : (covL n lo hi f k).length = n := by simp [covL]
theorem covL_get {n lo hi f k t : Nat} (h : t < n) : (covL n lo hi f k).getD t 0 = if (lo ≤ t ∧ t < hi) ∨ (f ≤ t ∧ t < k) then 1 else 0 := by
  unfold covL
  rw [List.getD_eq_getElem?_getD, List.getElem?_map, List.getElem?_range h]
  rfl
theorem covL_set {n lo hi f k : Nat} (hk : k < n) (hf : f ≤ k) : (covL n lo hi f k).set k 1 = covL n lo hi f (k + 1) := by
  apply List.ext_getElem?
  intro i
  rw [List.getElem?_set]
  by_cases hin : i < n
  · unfold covL
    rw [List.getElem?_map, List.getElem?_map, List.getElem?_range hin]
    simp only [List.length_map, List.length_range, Option.map_some]
    by_cases e : k = i
    · subst e
      rw [if_pos rfl, if_pos hk, if_pos (.inr ⟨hf, by omega⟩)]
    · rw [if_neg e]

      congr 1
      by_cases c : (lo ≤ i ∧ i < hi) ∨ (f ≤ i ∧ i < k)
      · rw [if_pos c, if_pos (by omega)]
      · rw [if_neg c, if_neg (by omega)]
  · rw [if_neg (by omega), List.getElem?_eq_none (by rw [covL_len]; omega), List.getElem?_eq_none (by rw [covL_len]; omega)]
theorem covL_zero (n a f : Nat) : covL n a a f f = List.replicate n 0 := by
  unfold covL
  apply List.ext_getElem?
  intro i
  by_cases hi : i < n
  · rw [List.getElem?_map, List.getElem?_range hi, List.getElem?_replicate, if_pos hi]
    simp only [Option.map_some]
    rw [if_neg (by omega)]
  · rw [List.getElem?_eq_none (by simp; omega), List.getElem?_eq_none (by simp; omega)]
end Go.Proofs.Ytbjfacfphgnhpaa
