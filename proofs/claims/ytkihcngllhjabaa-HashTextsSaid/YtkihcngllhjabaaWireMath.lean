/- Plain mathematics: numbers as bytes, the highest first; lengths. -/
namespace Go.Proofs.Ytkihcngllhjabaa.WireM

/-- i bytes of a number, the highest first -/
def beN : Nat → Nat → List Nat
  | 0, _ => []
  | i + 1, n => (n / 256 ^ i % 256) :: beN i n
theorem beN_len : ∀ i n, (beN i n).length = i := by
  intro i
  induction i with
  | zero => intro n; rfl
  | succ i ih => intro n; simp [beN, ih]
theorem beN_lt : ∀ i n, ∀ x ∈ beN i n, x < 256 := by
  intro i
  induction i with
  | zero => intro n x h; simp [beN] at h
  | succ i ih =>
    intro n x h
    simp only [beN, List.mem_cons] at h
    rcases h with rfl | h
    · exact Nat.mod_lt _ (by omega)
    · exact ih n x h
/-- the bytes of a length -/
def lenB (n : Nat) : List Nat :=
  if n < 64 then [n] else if n < 16384 then [64 + n / 256, n % 256] else [128 + n / 16777216, n / 65536 % 256, n / 256 % 256, n % 256]
/-- how many bytes a length takes, 0: it can't be one -/
def lenS (n : Int) : Nat := if n < 0 ∨ 1073741823 < n then 0 else if n < 64 then 1 else if n < 16384 then 2 else 4
theorem lenB_lt {n : Nat} (h : n < 1073741824) : ∀ x ∈ lenB n, x < 256 := by
  intro x hx
  unfold lenB at hx
  split at hx
  · simp at hx; omega
  · split at hx
    · simp at hx; omega
    · simp at hx; omega
theorem lenS1 {n : Nat} (h1 : n < 64) : lenS n = 1 := by unfold lenS; rw [if_neg (by omega), if_pos (by omega)]
theorem lenS2 {n : Nat} (h0 : 64 ≤ n) (h1 : n < 16384) : lenS n = 2 := by unfold lenS; rw [if_neg (by omega), if_neg (by omega), if_pos (by omega)]
theorem lenS4 {n : Nat} (h0 : 16384 ≤ n) (h1 : n < 1073741824) : lenS n = 4 := by unfold lenS; rw [if_neg (by omega), if_neg (by omega), if_neg (by omega)]
theorem lenB_len {n : Nat} (h : n < 1073741824) : (lenB n).length = lenS n := by
  by_cases h1 : n < 64
  · rw [lenS1 h1, lenB, if_pos h1]; rfl
  · by_cases h2 : n < 16384
    · rw [lenS2 (by omega) h2, lenB, if_neg h1, if_pos h2]; rfl
    · rw [lenS4 (by omega) h, lenB, if_neg h1, if_neg h2]; rfl
theorem be1 (n : Nat) (h : n < 64) : beN 1 n = lenB n := by
  unfold lenB
  rw [if_pos h]
  simp [beN]; omega
theorem be2 (n : Nat) (h0 : 64 ≤ n) (h : n < 16384) : beN 2 (16384 + n) = lenB n := by
  unfold lenB
  rw [if_neg (by omega), if_pos h]
  simp [beN]; omega
theorem be4 (n : Nat) (h0 : 16384 ≤ n) (h : n < 1073741824) : beN 4 (2147483648 + n) = lenB n := by
  unfold lenB
  rw [if_neg (by omega), if_neg (by omega)]
  simp [beN]; omega
theorem or2 (n : Nat) (h : n < 16384) : 16384 ||| n = 16384 + n := by
  have := Nat.two_pow_add_eq_or_of_lt (i := 14) (b := n) (by omega) 1
  simpa using this.symm
theorem or4 (n : Nat) (h : n < 1073741824) : 2147483648 ||| n = 2147483648 + n := by
  have := Nat.two_pow_add_eq_or_of_lt (i := 31) (b := n) (by omega) 1
  simpa using this.symm
theorem beN_step (i n : Nat) : n / 256 ^ i / 256 = n / 256 ^ (i + 1) := by rw [Nat.pow_succ, Nat.div_div_eq_div_mul]
theorem shift_pow (i : Nat) : 2 ^ (8 * i) = 256 ^ i := by rw [Nat.pow_mul]
end Go.Proofs.Ytkihcngllhjabaa.WireM
