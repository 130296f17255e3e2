/- Plain mathematics: which numbers have one bit set. -/
namespace Go.Proofs.Ytohldijomcljkaa.WalkM
def pop1 (n : Nat) : Nat := ((n / 2) &&& 6148914691236517205) + (n &&& 6148914691236517205)
def pop2 (n : Nat) : Nat := ((n / 4) &&& 3689348814741910323) + (n &&& 3689348814741910323)
def pop3 (n : Nat) : Nat := (n / 16 + n) &&& 1085102592571150095
def pop4 (n : Nat) : Nat := n + n / 256
def pop5 (n : Nat) : Nat := n + n / 65536
def pop6 (n : Nat) : Nat := n + n / 4294967296
def popc (n : Nat) : Nat := pop6 (pop5 (pop4 (pop3 (pop2 (pop1 n))))) &&& 127
/-- a number of leaves of a tree -/
def fits (n : Nat) : Bool := (List.range 17).any fun d => n == 2 ^ d
/-- a test of 2 to the k numbers from lo on, by halves -/
def chk (t : Nat → Bool) : Nat → Nat → Bool
  | 0, lo => t lo
  | k + 1, lo => chk t k lo && chk t k (lo + 2 ^ k)
theorem chk_all (t : Nat → Bool) : ∀ k lo, chk t k lo = true → ∀ n, lo ≤ n → n < lo + 2 ^ k → t n = true := by
  intro k
  induction k with
  | zero => intro lo h n h1 h2; obtain rfl : n = lo := by omega
            exact h
  | succ k ih =>
    intro lo h n h1 h2
    simp only [chk, Bool.and_eq_true] at h
    rw [Nat.pow_succ] at h2
    by_cases hn : n < lo + 2 ^ k
    · exact ih lo h.1 n h1 hn
    · exact ih (lo + 2 ^ k) h.2 n (by omega) (by omega)
theorem fits_iff (n : Nat) : fits n = true ↔ ∃ d, d ≤ 16 ∧ n = 2 ^ d := by
  unfold fits
  rw [List.any_eq_true]
  constructor
  · rintro ⟨d, hd, h⟩
    exact ⟨d, by have := List.mem_range.1 hd; omega, by simpa using h⟩
  · rintro ⟨d, hd, rfl⟩
    exact ⟨d, List.mem_range.2 (by omega), by simp⟩
def tst (n : Nat) : Bool := (popc n == 1) == (n == 2 ^ Nat.log2 n && n != 0)
theorem popc_0 : chk tst 12 0 = true := by decide +kernel
theorem popc_1 : chk tst 12 4096 = true := by decide +kernel
theorem popc_2 : chk tst 12 8192 = true := by decide +kernel
theorem popc_3 : chk tst 12 12288 = true := by decide +kernel
theorem popc_4 : chk tst 12 16384 = true := by decide +kernel
theorem popc_5 : chk tst 12 20480 = true := by decide +kernel
theorem popc_6 : chk tst 12 24576 = true := by decide +kernel
theorem popc_7 : chk tst 12 28672 = true := by decide +kernel
theorem popc_8 : chk tst 12 32768 = true := by decide +kernel
theorem popc_9 : chk tst 12 36864 = true := by decide +kernel
theorem popc_10 : chk tst 12 40960 = true := by decide +kernel
theorem popc_11 : chk tst 12 45056 = true := by decide +kernel
theorem popc_12 : chk tst 12 49152 = true := by decide +kernel
theorem popc_13 : chk tst 12 53248 = true := by decide +kernel
theorem popc_14 : chk tst 12 57344 = true := by decide +kernel
theorem popc_15 : chk tst 12 61440 = true := by decide +kernel
theorem popc_log (n : Nat) (h : n ≤ 65536) : (popc n == 1) = (n == 2 ^ Nat.log2 n && n != 0) := by
  have key : tst n = true := by
    by_cases e : n = 65536
    · subst e; decide +kernel
    · obtain ⟨k, hk, h1⟩ : ∃ k, k < 16 ∧ (4096 * k ≤ n ∧ n < 4096 * k + 2 ^ 12) := ⟨n / 4096, by omega, by omega, by omega⟩
      obtain rfl | rfl | rfl | rfl | rfl | rfl | rfl | rfl | rfl | rfl | rfl | rfl | rfl | rfl | rfl | rfl : k = 0 ∨ k = 1 ∨ k = 2 ∨ k = 3 ∨ k = 4 ∨ k = 5 ∨ k = 6 ∨ k = 7 ∨ k = 8 ∨ k = 9 ∨ k = 10 ∨ k = 11 ∨ k = 12 ∨ k = 13 ∨ k = 14 ∨ k = 15 := by omega
      · exact chk_all _ 12 _ popc_0 n (by omega) (by omega)
      · exact chk_all _ 12 _ popc_1 n (by omega) (by omega)
      · exact chk_all _ 12 _ popc_2 n (by omega) (by omega)
      · exact chk_all _ 12 _ popc_3 n (by omega) (by omega)
      · exact chk_all _ 12 _ popc_4 n (by omega) (by omega)
      · exact chk_all _ 12 _ popc_5 n (by omega) (by omega)
      · exact chk_all _ 12 _ popc_6 n (by omega) (by omega)
      · exact chk_all _ 12 _ popc_7 n (by omega) (by omega)
      · exact chk_all _ 12 _ popc_8 n (by omega) (by omega)
      · exact chk_all _ 12 _ popc_9 n (by omega) (by omega)
      · exact chk_all _ 12 _ popc_10 n (by omega) (by omega)
      · exact chk_all _ 12 _ popc_11 n (by omega) (by omega)
      · exact chk_all _ 12 _ popc_12 n (by omega) (by omega)
      · exact chk_all _ 12 _ popc_13 n (by omega) (by omega)
      · exact chk_all _ 12 _ popc_14 n (by omega) (by omega)
      · exact chk_all _ 12 _ popc_15 n (by omega) (by omega)
  simpa [tst] using key
theorem popc_fits (n : Nat) (h : n ≤ 65536) : (popc n == 1) = fits n := by
  rw [popc_log n h, Bool.eq_iff_iff, fits_iff]
  simp only [Bool.and_eq_true, beq_iff_eq, bne_iff_ne]
  constructor
  · rintro ⟨h1, h2⟩
    refine ⟨Nat.log2 n, ?_, h1⟩
    rcases Nat.lt_or_ge 16 (Nat.log2 n) with hl | hl
    · have : 2 ^ 17 ≤ 2 ^ Nat.log2 n := Nat.pow_le_pow_right (by omega) hl
      omega
    · exact hl
  · rintro ⟨d, hd, rfl⟩
    rw [Nat.log2_two_pow]
    have := Nat.pos_of_ne_zero (show 2 ^ d ≠ 0 by simp)
    exact ⟨rfl, by omega⟩
end Go.Proofs.Ytohldijomcljkaa.WalkM
