/- Plain mathematics: the nodes of a tree in a row: levels and ancestors. -/
namespace Go.Proofs.Ytbjfacfphgnhpaa.WalkM

/-- l ones end the number, then a nought -/
def IsLev (x l : Nat) : Prop := x % 2 ^ (l + 1) = 2 ^ l - 1
/-- the node of the level j that is x or is above it -/
def anc (x j : Nat) : Nat := x / 2 ^ (j + 1) * 2 ^ (j + 1) + (2 ^ j - 1)

theorem pow_pos' (k : Nat) : 0 < 2 ^ k := Nat.pos_of_ne_zero (by simp)
theorem ones_mod {m k : Nat} (h : k ≤ m) : (2 ^ m - 1) % 2 ^ k = 2 ^ k - 1 := by
  obtain ⟨d, rfl⟩ : ∃ d, m = k + d := ⟨m - k, by omega⟩
  have hk := pow_pos' k
  have hd := pow_pos' d
  rw [Nat.pow_add]
  have e : 2 ^ k * 2 ^ d - 1 = 2 ^ k - 1 + 2 ^ k * (2 ^ d - 1) := by
    rw [Nat.mul_sub_one]
    have : 2 ^ k ≤ 2 ^ k * 2 ^ d := Nat.le_mul_of_pos_right _ hd
    omega
  rw [e, Nat.add_mul_mod_self_left]
  exact Nat.mod_eq_of_lt (by omega)
theorem lev_lt {x l m : Nat} (hl : IsLev x l) (hm : IsLev x m) : ¬ l < m := by
  intro h
  unfold IsLev at hl hm
  have h1 : x % 2 ^ (l + 1) = 2 ^ (l + 1) - 1 := by
    have h2 : x % 2 ^ (m + 1) % 2 ^ (l + 1) = x % 2 ^ (l + 1) := Nat.mod_mod_of_dvd _ (Nat.pow_dvd_pow 2 (by omega))
    rw [hm, ones_mod (by omega)] at h2
    exact h2.symm
  rw [hl, Nat.pow_succ] at h1
  have := pow_pos' l
  omega
theorem lev_unique {x l m : Nat} (hl : IsLev x l) (hm : IsLev x m) : l = m := by
  have := lev_lt hl hm
  have := lev_lt hm hl
  omega
theorem anc_lev (x j : Nat) : IsLev (anc x j) j := by
  unfold IsLev anc
  rw [Nat.mul_comm, Nat.mul_add_mod]
  have := pow_pos' j
  exact Nat.mod_eq_of_lt (by rw [Nat.pow_succ]; omega)
theorem anc_self {x l : Nat} (h : IsLev x l) : anc x l = x := by
  unfold anc
  rw [← h, Nat.mul_comm]
  exact Nat.div_add_mod x _
theorem anc_div {x j k : Nat} (h : j ≤ k) : anc x j / 2 ^ (k + 1) = x / 2 ^ (k + 1) := by
  obtain ⟨d, rfl⟩ : ∃ d, k = j + d := ⟨k - j, by omega⟩
  have hp := pow_pos' (j + 1)
  have h1 : 2 ^ j - 1 < 2 ^ (j + 1) := by
    have := pow_pos' j
    rw [Nat.pow_succ]; omega
  rw [show j + d + 1 = j + 1 + d from by omega, Nat.pow_add, ← Nat.div_div_eq_div_mul, ← Nat.div_div_eq_div_mul]
  congr 1
  unfold anc
  rw [Nat.mul_comm, Nat.mul_add_div hp, Nat.div_eq_of_lt h1, Nat.add_zero]
theorem anc_anc {x j k : Nat} (h : j ≤ k) : anc (anc x j) k = anc x k := by
  unfold anc
  rw [show (x / 2 ^ (j + 1) * 2 ^ (j + 1) + (2 ^ j - 1)) = anc x j from rfl, anc_div h]
/-- the level of a node: counted -/
def tones : Nat → Nat → Nat
  | 0, _ => 0
  | f + 1, x => if x % 2 = 1 then tones f (x / 2) + 1 else 0
theorem tones_lev : ∀ f x, x + 1 < 2 ^ f → IsLev x (tones f x) := by
  intro f
  induction f with
  | zero => intro x h; simp at h
  | succ f ih =>
    intro x h
    unfold tones
    by_cases hx : x % 2 = 1
    · rw [if_pos hx]
      have hr := ih (x / 2) (by rw [Nat.pow_succ] at h; omega)
      unfold IsLev at hr ⊢
      rw [Nat.pow_succ, Nat.mul_comm, Nat.mod_mul, hx, hr]
      have := pow_pos' (tones f (x / 2))
      rw [Nat.pow_succ]
      omega
    · rw [if_neg hx]
      unfold IsLev
      simp; omega
theorem tones_lt : ∀ f x, x + 1 < 2 ^ f → tones f x < f := by
  intro f
  induction f with
  | zero => intro x h; simp at h
  | succ f ih =>
    intro x h
    unfold tones
    split
    · have := ih (x / 2) (by rw [Nat.pow_succ] at h; omega); omega
    · omega
/-- the level of a node below 2 to 17 less 1 -/
def lev (x : Nat) : Nat := tones 17 x
theorem lev_is {x : Nat} (h : x ≤ 131070) : IsLev x (lev x) := tones_lev 17 x (by omega)
theorem lev_le {x : Nat} (h : x ≤ 131070) : lev x ≤ 16 := by have := tones_lt 17 x (by omega); unfold lev; omega
theorem lev_eq {x l : Nat} (h : x ≤ 131070) (hl : IsLev x l) : lev x = l := lev_unique (lev_is h) hl
/-- a node's part of the row -/
theorem anc_bounds (x j : Nat) : x / 2 ^ (j + 1) * 2 ^ (j + 1) ≤ x ∧ x < x / 2 ^ (j + 1) * 2 ^ (j + 1) + 2 ^ (j + 1) := by
  have h := Nat.div_add_mod x (2 ^ (j + 1))
  have h2 := Nat.mod_lt x (pow_pos' (j + 1))
  rw [Nat.mul_comm] at h
  omega
end Go.Proofs.Ytbjfacfphgnhpaa.WalkM
