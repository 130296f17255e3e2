/- Floats that stand for whole numbers: the other sign, the way back to int, a complex number times its conjugate. -/
import Derived.Test.YtbjfacfphgnhpaaFloatInt
namespace Go.Proofs.Ytbjfacfphgnhpaa.FloatM
open Go Ieee
set_option linter.unusedVariables false
theorem xor_top (b : Nat) : (b ^^^ 2 ^ 63) % 2 ^ 63 = b % 2 ^ 63 ∧ (b ^^^ 2 ^ 63) / 2 ^ 63 % 2 = 1 - b / 2 ^ 63 % 2 := by
  constructor
  · rw [Nat.xor_mod_two_pow, Nat.mod_self, Nat.xor_zero]
  · rw [Nat.xor_div_two_pow, Nat.div_self (by decide)]
    have := Nat.xor_mod_two_pow (a := b / 2 ^ 63) (b := 1) (n := 1)
    rw [show (2 : Nat) ^ 1 = 2 from rfl] at this
    rw [this]
    have h : b / 2 ^ 63 % 2 = 0 ∨ b / 2 ^ 63 % 2 = 1 := by omega
    rcases h with h | h <;> rw [h] <;> decide
theorem read_neg (b : Nat) : double.read (Op.negFloat .f64 b) = (double.read b).opposite ∨ ∃ s m, double.read b = .nan s m := by
  have hw : double.signWeight = 2 ^ 63 := rfl
  have hn : Op.negFloat .f64 b = b ^^^ 2 ^ 63 := rfl
  obtain ⟨h1, h2⟩ := xor_top b
  have h3 : b / 2 ^ 63 % 2 = 0 ∨ b / 2 ^ 63 % 2 = 1 := by omega
  unfold Format.read
  rw [hn, hw]
  simp only [h1, h2]
  have e : (1 - b / 2 ^ 63 % 2 == 1) = !(b / 2 ^ 63 % 2 == 1) := by rcases h3 with h | h <;> rw [h] <;> rfl
  rw [e]
  split
  · left; rfl
  · split
    · left; rfl
    · split
      · left; rfl
      · right; exact ⟨_, _, rfl⟩
theorem isF_neg {b : Nat} {n : Int} (h : IsF b n) : IsF (Op.negFloat .f64 b) (-n) := by
  rcases read_neg b with e | ⟨s, m, e⟩
  · unfold IsF; rw [e]; exact opp_rep h
  · obtain ⟨s', k, e', _⟩ := h
    rw [e] at e'; cases e'
theorem cut_zero (s : Bool) (N k : Nat) : Toward.zero.cut s (N * 2 ^ k) k = N := by
  unfold Toward.cut
  by_cases h0 : N = 0
  · subst h0; simp
  · rw [log_shift (by omega), Nat.min_eq_left (by omega), Nat.one_shiftLeft]
    simp [Nat.mul_div_cancel _ (pow_pos2 k)]
theorem isF_toInt {b : Nat} {n : Int} (h : IsF b n) (hn : n.natAbs < 2 ^ 53) : floatToIntVal .f64 b .i64 = some n := by
  obtain ⟨s, k, e, hs⟩ := h
  have e1 : (Ieee.double.read b).toInt .zero = some n := by
    rw [e]
    unfold Datum.toInt Datum.integral
    have a1 : (-(k : Int)).toNat = 0 := by omega
    have a2 : (- -(k : Int)).toNat = k := by omega
    simp only [a1, a2, Nat.shiftLeft_zero, cut_zero]
    rw [signed_mul]
    congr 1
    rw [show (2 : Int) ^ 0 = 1 from rfl, Int.mul_one]
    exact rep_signed hs
  unfold floatToIntVal
  have e2 : (FloatKind.f64.decode b).toInt .zero = some n := e1
  rw [e2]
  have m1 : IntKind.i64.min = -9223372036854775808 := by decide
  have m2 : IntKind.i64.max = 9223372036854775807 := by decide
  simp only
  rw [if_pos (by rw [m1, m2]; omega)]
/-- times what it is with the other sign of i -/
theorem cconj {a b : Nat} {X Y : Int} (ha : IsF a X) (hb : IsF b Y) (hX : X.natAbs < 16384) (hY : Y.natAbs < 16384) :
    ∃ re im, cMulBits a b a (Op.negFloat .f64 b) = some (re, im) ∧ IsF re (X * X + Y * Y) := by
  have hn := isF_neg hb
  have sq : ∀ U V : Int, U.natAbs < 16384 → V.natAbs < 16384 → (U * V).natAbs < 2 ^ 28 := by
    intro U V h1 h2
    rw [Int.natAbs_mul]
    have := Nat.mul_le_mul (show U.natAbs ≤ 16383 by omega) (show V.natAbs ≤ 16383 by omega)
    omega
  have p1 := sq X X hX hX
  have p2 := sq Y (-Y) hY (by omega)
  have p3 := sq X (-Y) hX (by omega)
  have p4 := sq Y X hY hX
  obtain ⟨ac, h1, k1⟩ := isF_mul ha ha (by omega)
  obtain ⟨bd, h2, k2⟩ := isF_mul hb hn (by omega)
  obtain ⟨re, h3, k3⟩ := isF_sub k1 k2 (by omega)
  obtain ⟨ad, h4, k4⟩ := isF_mul ha hn (by omega)
  obtain ⟨bc, h5, k5⟩ := isF_mul hb ha (by omega)
  obtain ⟨im, h6, k6⟩ := isF_add k4 k5 (by omega)
  refine ⟨re, im, ?_, ?_⟩
  · simp [cMulBits, h1, h2, h3, h4, h5, h6]
  · have e : X * X - Y * -Y = X * X + Y * Y := by rw [Int.mul_neg]; omega
    rw [← e]; exact k3
end Go.Proofs.Ytbjfacfphgnhpaa.FloatM
