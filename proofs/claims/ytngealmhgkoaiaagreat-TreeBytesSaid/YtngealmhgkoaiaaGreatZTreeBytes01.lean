/- Small laws on bits: operations on numbers that are casts of naturals. -/
import Derived.WalkKit
import Derived.Laws.BitsAllLaws
import Derived.Test.YtngealmhgkoaiaaGreatZTreeBytes00
namespace Go.Proofs.YtngealmhgkoaiaaGreat
open Go.RowKit

theorem ret_int {k : IntKind} {a b : Int} (h : a = b) : Ending.returned (.int k a) = .returned (.int k b) := by rw [h]
theorem ret_bool {a b : Bool} (h : a = b) : Ending.returned (.bool a) = .returned (.bool b) := by rw [h]
theorem val_int {k : IntKind} {a b : Int} (h : a = b) : Value.int k a = .int k b := by rw [h]

theorem ofInt_64 (a : Nat) (ha : a < 9223372036854775808) : (BitVec.ofInt 64 (a : Int)).toNat = a := by
  rw [BitVec.ofInt_natCast, BitVec.toNat_ofNat]; exact Nat.mod_eq_of_lt (by omega)
theorem i64_xor_nat (a b : Nat) (ha : a < 9223372036854775808) (hb : b < 9223372036854775808) : bits .xor .i64 (a : Int) (b : Int) = ((a ^^^ b : Nat) : Int) := by
  have hx : a ^^^ b < 2 ^ 63 := Nat.xor_lt_two_pow (by omega) (by omega)
  show IntKind.i64.wrap ((BitVec.ofInt 64 (a : Int) ^^^ BitVec.ofInt 64 (b : Int)).toNat : Int) = _
  rw [BitVec.toNat_xor, ofInt_64 a ha, ofInt_64 b hb, IntKind.wrap_i64]
  omega
theorem i64_and_nat (a b : Nat) (ha : a < 9223372036854775808) (hb : b < 9223372036854775808) : bits .and .i64 (a : Int) (b : Int) = ((a &&& b : Nat) : Int) := by
  have hx : a &&& b < 2 ^ 63 := Nat.and_lt_two_pow _ (by omega)
  show IntKind.i64.wrap ((BitVec.ofInt 64 (a : Int) &&& BitVec.ofInt 64 (b : Int)).toNat : Int) = _
  rw [BitVec.toNat_and, ofInt_64 a ha, ofInt_64 b hb, IntKind.wrap_i64]
  omega
theorem i64_or_nat (a b : Nat) (ha : a < 9223372036854775808) (hb : b < 9223372036854775808) : bits .or .i64 (a : Int) (b : Int) = ((a ||| b : Nat) : Int) := by
  have hx : a ||| b < 2 ^ 63 := Nat.or_lt_two_pow (by omega) (by omega)
  show IntKind.i64.wrap ((BitVec.ofInt 64 (a : Int) ||| BitVec.ofInt 64 (b : Int)).toNat : Int) = _
  rw [BitVec.toNat_or, ofInt_64 a ha, ofInt_64 b hb, IntKind.wrap_i64]
  omega
theorem and1_u8 (b : Nat) (hb : b < 256) : bits .and .u8 (b : Int) 1 = ((b % 2 : Nat) : Int) := by
  have := u8_and_nat b 1 hb (by omega)
  rw [nat_mask1] at this
  exact this
theorem mask_u8 (a m : Nat) (ha : a < 256) (hm : m < 2) : bits .and .u8 (a : Int) (-(m : Int) % 256) = ((if m = 1 then a else 0 : Nat) : Int) := by
  have e : (-(m : Int) % 256) = ((if m = 1 then 255 else 0 : Nat) : Int) := by split <;> omega
  rw [e, u8_and_nat a _ ha (by split <;> omega)]
  congr 1
  split
  · have := Nat.and_two_pow_sub_one_eq_mod a 8
    simp only [show 2 ^ 8 - 1 = 255 from rfl] at this
    rw [this]; omega
  · simp
theorem two_pow_le {k n : Nat} (h : k ≤ n) : 2 ^ k ≤ 2 ^ n := Nat.pow_le_pow_right (by omega) h
theorem two_pow_pos (k : Nat) : 1 ≤ 2 ^ k := Nat.one_le_two_pow
end Go.Proofs.YtngealmhgkoaiaaGreat
/- Plain: a parent's number by bits. -/
namespace Go.Proofs.YtngealmhgkoaiaaGreat
open Go.RowKit WalkM

theorem anc_bit (x j i : Nat) : (anc x j).testBit i = if i < j + 1 then decide (i < j) else x.testBit i := by
  have hp := pow_pos' j
  unfold anc
  rw [Nat.mul_comm, Nat.testBit_two_pow_mul_add _ (show 2 ^ j - 1 < 2 ^ (j + 1) by rw [Nat.pow_succ]; omega)]
  split
  · rw [Nat.testBit_two_pow_sub_one]
  · rw [Nat.testBit_div_two_pow]
    congr 1; omega
theorem par_bits {x l : Nat} (h : IsLev x l) (hl : l ≤ 17) (hx : x < 2 ^ 63) : (x ||| 2 ^ l) &&& (2 ^ 64 - (2 ^ (l + 1) + 1)) = anc x (l + 1) := by
  have h0 := anc_self h
  apply Nat.eq_of_testBit_eq
  intro i
  have hb : 2 ^ (l + 1) < 2 ^ 64 := Nat.pow_lt_pow_right (by omega) (by omega)
  rw [Nat.testBit_and, Nat.testBit_or, Nat.testBit_two_pow, Nat.testBit_two_pow_sub_succ hb, Nat.testBit_two_pow, anc_bit]
  have hi := anc_bit x l i
  rw [h0] at hi
  by_cases h64 : i < 64
  · by_cases h1 : i < l
    · rw [hi, if_pos (by omega), if_pos (by omega)]
      have e2 : decide (l + 1 = i) = false := by simp; omega
      have e3 : decide (i < l + 1) = true := by simp; omega
      rw [e2, e3]
      simp [h1, h64]
    · by_cases h2 : i = l
      · subst h2
        rw [hi]; simp; omega
      · by_cases h3 : i = l + 1
        · subst h3; simp
        · rw [if_neg (by omega)]
          have e1 : decide (l = i) = false := by simp; omega
          have e2 : decide (l + 1 = i) = false := by simp; omega
          rw [e1, e2]
          simp [h64]
  · have : x.testBit i = false := Nat.testBit_lt_two_pow (Nat.lt_of_lt_of_le hx (Nat.pow_le_pow_right (by omega) (by omega)))
    rw [if_neg (by omega), this]
    simp [h64]
theorem i64_andnot_nat (a b : Nat) (ha : a < 9223372036854775808) (hb : b < 9223372036854775808) : bits .andNot .i64 (a : Int) (b : Int) = ((a &&& (2 ^ 64 - (b + 1)) : Nat) : Int) := by
  have hx : a &&& (2 ^ 64 - (b + 1)) ≤ a := Nat.and_le_left
  show IntKind.i64.wrap ((BitVec.ofInt 64 (a : Int) &&& ~~~ BitVec.ofInt 64 (b : Int)).toNat : Int) = _
  rw [BitVec.toNat_and, BitVec.toNat_not, ofInt_64 a ha, ofInt_64 b hb, IntKind.wrap_i64, show 2 ^ 64 - 1 - b = 2 ^ 64 - (b + 1) by omega]
  omega
end Go.Proofs.YtngealmhgkoaiaaGreat
