/- Plain mathematics for the layer aes: products of bytes, tables. Nothing of the program is in sight here. -/
namespace Go.Proofs.Ytfpjpakjlhidkaa.AesM

/-- a times x -/
def xt (a : Nat) : Nat := (a * 2 % 256) ^^^ (if 128 ≤ a then 27 else 0)
def gm : Nat → Nat → Nat → Nat → Nat
  | 0, _, _, o => o
  | n + 1, a, b, o => gm n (xt a) (b / 2) (o ^^^ (if b % 2 = 1 then a else 0))
/-- the product of two bytes -/
def tms (a b : Nat) : Nat := gm 8 a b 0

theorem xt_lt {a : Nat} (_h : a < 256) : xt a < 256 := by
  unfold xt
  exact Nat.xor_lt_two_pow (n := 8) (by omega) (by split <;> omega)
theorem xor_lt {a b : Nat} (h : a < 256) (h' : b < 256) : a ^^^ b < 256 := Nat.xor_lt_two_pow (n := 8) h h'
theorem gm_zero : ∀ (n a o : Nat), gm n a 0 o = o := by
  intro n
  induction n with
  | zero => intro a o; rfl
  | succ n ih => intro a o; simp [gm, ih]
theorem gm_lt : ∀ (n a b o : Nat), a < 256 → o < 256 → gm n a b o < 256 := by
  intro n
  induction n with
  | zero => intro a b o _ h; exact h
  | succ n ih => intro a b o ha ho; exact ih _ _ _ (xt_lt ha) (xor_lt ho (by split <;> omega))
theorem tms_lt {a : Nat} (b : Nat) (h : a < 256) : tms a b < 256 := gm_lt 8 a b 0 h (by omega)

/-- the reference's: n after the first k bits -/
def cl (a b : Nat) : Nat → Nat
  | 0 => 0
  | k + 1 => if b / 2 ^ k % 2 = 1 then cl a b k ^^^ (a * 2 ^ k) else cl a b k
/-- the reference's: what stands above 8 bits is taken off: bits 14, 13 .. -/
def rd : Nat → Nat → Nat
  | 0, n => n
  | k + 1, n => rd k (if n / 2 ^ (k + 8) % 2 = 1 then n ^^^ (283 * 2 ^ k) else n)
def rtms (a b : Nat) : Nat := rd 7 (cl a b 8)

theorem rd_xor : ∀ (k x y : Nat), rd k (x ^^^ y) = rd k x ^^^ rd k y := by
  intro k
  induction k with
  | zero => intro x y; rfl
  | succ k ih =>
    intro x y
    simp only [rd]
    rw [← ih]
    congr 1
    have t : ∀ z : Nat, (z / 2 ^ (k + 8) % 2 = 1) ↔ z.testBit (k + 8) = true := by
      intro z; rw [Nat.testBit_eq_decide_div_mod_eq]; simp
    simp only [t, Nat.testBit_xor]
    cases hx : x.testBit (k + 8) <;> cases hy : y.testBit (k + 8) <;> simp
    · rw [Nat.xor_assoc]
    · rw [Nat.xor_assoc, Nat.xor_comm y, ← Nat.xor_assoc]
    · have : x ^^^ 283 * 2 ^ k ^^^ (y ^^^ 283 * 2 ^ k) = x ^^^ y := by
        rw [Nat.xor_assoc, Nat.xor_comm y, ← Nat.xor_assoc (283 * 2 ^ k), Nat.xor_self, Nat.zero_xor]
      exact this.symm

def xtn : Nat → Nat → Nat
  | 0, a => a
  | k + 1, a => xt (xtn k a)
/-- the first k bits of b, each times a -/
def sm (a b : Nat) : Nat → Nat
  | 0 => 0
  | k + 1 => sm a b k ^^^ (if b / 2 ^ k % 2 = 1 then xtn k a else 0)
theorem rd_cl : ∀ a, a < 256 → ∀ k, k < 8 → rd 7 (a * 2 ^ k) = xtn k a := by decide +kernel
theorem rd_cl_sm (a b : Nat) (ha : a < 256) : ∀ k, k ≤ 8 → rd 7 (cl a b k) = sm a b k := by
  intro k
  induction k with
  | zero => intro _; show rd 7 0 = 0; decide
  | succ k ih =>
    intro hk
    simp only [cl, sm]
    split
    · rw [rd_xor, ih (by omega), rd_cl a ha k (by omega)]
    · rw [ih (by omega)]; simp
theorem gm_sm (a b : Nat) : ∀ n k, gm n (xtn k a) (b / 2 ^ k) (sm a b k) = sm a b (k + n) := by
  intro n
  induction n with
  | zero => intro k; rfl
  | succ n ih =>
    intro k
    simp only [gm]
    have := ih (k + 1)
    rw [show k + (n + 1) = k + 1 + n from by omega, ← this, Nat.div_div_eq_div_mul, Nat.pow_succ]
    rfl
theorem tms_sm (a b : Nat) : tms a b = sm a b 8 := by
  have := gm_sm a b 8 0
  simpa [tms, xtn, sm] using this
theorem rtms_tms (a b : Nat) (ha : a < 256) : rtms a b = tms a b := by
  rw [tms_sm, rtms, rd_cl_sm a b ha 8 (by omega)]


def rot (x k : Nat) : Nat := (x * 2 ^ k % 256) ||| (x / 2 ^ (8 - k))
/-- one round of the making of the boxes -/
def spread (q : Nat) : Nat → Nat
  | 0 => q
  | n + 1 => spread q n ^^^ rot q (n + 1)
def bstep (s : Nat × Nat × List Nat) : Nat × Nat × List Nat :=
  (tms s.1 3, tms s.2.1 246, s.2.2.set (tms s.1 3) (spread (tms s.2.1 246) 4 ^^^ 99))
def bst : Nat → Nat × Nat × List Nat
  | 0 => (1, 1, (List.replicate 256 0).set 0 99)
  | n + 1 => bstep (bst n)
/-- the boxes of all bytes -/
def boxL : List Nat := (bst 255).2.2
theorem rot_lt {x k : Nat} (h : x < 256) : rot x k < 256 := by
  unfold rot
  exact Nat.or_lt_two_pow (n := 8) (by omega) (Nat.lt_of_le_of_lt (Nat.div_le_self _ _) h)
theorem spread_lt {q : Nat} (h : q < 256) : ∀ n, n ≤ 8 → spread q n < 256 := by
  intro n
  induction n with
  | zero => intro _; exact h
  | succ n ih => intro hn; exact xor_lt (ih (by omega)) (rot_lt h)
theorem bst_ok : ∀ n, (bst n).1 < 256 ∧ (bst n).2.1 < 256 ∧ (bst n).2.2.length = 256 ∧ ∀ x ∈ (bst n).2.2, x < 256 := by
  intro n
  induction n with
  | zero =>
    refine ⟨by show 1 < 256; omega, by show 1 < 256; omega, (List.length_set).trans List.length_replicate, ?_⟩
    show ∀ x ∈ (List.replicate 256 0).set 0 99, x < 256
    intro x hx
    rcases List.mem_or_eq_of_mem_set hx with h | h
    · have := List.eq_of_mem_replicate h; omega
    · omega
  | succ n ih =>
    obtain ⟨h1, h2, h3, h4⟩ := ih
    refine ⟨tms_lt _ h1, tms_lt _ h2, ?_, ?_⟩
    · simp [bst, bstep, h3]
    · intro x hx
      rcases List.mem_or_eq_of_mem_set hx with h | h
      · exact h4 x h
      · subst h; exact xor_lt (spread_lt (tms_lt _ h2) 4 (by omega)) (by omega)
theorem boxL_len : boxL.length = 256 := (bst_ok 255).2.2.1
theorem boxL_lt : ∀ x ∈ boxL, x < 256 := (bst_ok 255).2.2.2

end Go.Proofs.Ytfpjpakjlhidkaa.AesM
