/- Plain: the two words of a block; bytes of a number, the highest first. -/
import Derived.WalkKit
import Derived.Laws.BitsAllLaws
import Derived.Test.YtfpjpakjlhidkaaGcmMath
namespace Go.Proofs.Ytfpjpakjlhidkaa
open GcmM
namespace GcmB
def P64 : Nat := 18446744073709551616
/-- the cells of a block -/
def pr (v : Nat) : Array Value := #[.int .u64 ((v / 18446744073709551616 : Nat) : Int), .int .u64 ((v % 18446744073709551616 : Nat) : Int)]
theorem or_byte (z b : Nat) (hz : z % 256 = 0) (hb : b < 256) : z ||| b = z + b := by
  have h := Nat.shiftLeft_add_eq_or_of_lt (a := z / 256) (b := b) (i := 8) (by omega)
  rw [Nat.shiftLeft_eq, show (2 : Nat) ^ 8 = 256 from rfl, Nat.div_mul_cancel (Nat.dvd_of_mod_eq_zero hz)] at h
  exact h.symm
theorem or_wrap (z b : Nat) (hz : z < 18446744073709551616) (hb : b < 18446744073709551616) (hs : z ||| b = z + b) : bits .or .u64 (z : Int) (b : Int) = ((z + b : Nat) : Int) := by
  have h2 : z ||| b < 2 ^ 64 := Nat.or_lt_two_pow (by omega) (by omega)
  show IntKind.u64.wrap ((BitVec.ofInt 64 (z : Int) ||| BitVec.ofInt 64 (b : Int)).toNat : Int) = _
  rw [BitVec.toNat_or, BitVec.ofInt_natCast, BitVec.ofInt_natCast, BitVec.toNat_ofNat, BitVec.toNat_ofNat, Nat.mod_eq_of_lt (show z < 2 ^ 64 from hz), Nat.mod_eq_of_lt (show b < 2 ^ 64 from hb), hs, IntKind.wrap_u64]
  rw [hs] at h2
  omega
theorem or_u64b (z b : Nat) (hz : z < 18446744073709551616) (hz2 : z % 256 = 0) (hb : b < 256) : bits .or .u64 (z : Int) (b : Int) = ((z + b : Nat) : Int) :=
  or_wrap z b hz (Nat.lt_of_lt_of_le hb (by decide)) (or_byte z b hz2 hb)
/-- a number below 2^63 and the highest bit -/
theorem or_top (z b : Nat) (hz : z < 9223372036854775808) (hb : b < 2) : bits .or .u64 (z : Int) ((b * 9223372036854775808 : Nat) : Int) = ((z + b * 9223372036854775808 : Nat) : Int) := by
  refine or_wrap z (b * 9223372036854775808) (by omega) (by omega) ?_
  have h := Nat.shiftLeft_add_eq_or_of_lt (a := b) (b := z) (i := 63) (by omega)
  rw [Nat.shiftLeft_eq, show (2 : Nat) ^ 63 = 9223372036854775808 from rfl] at h
  rw [Nat.or_comm, ← h, Nat.add_comm]
theorem and_one (q : Nat) (hq : q < 18446744073709551616) : bits .and .u64 (q : Int) 1 = ((q % 2 : Nat) : Int) := by
  show IntKind.u64.wrap ((BitVec.ofInt 64 (q : Int) &&& BitVec.ofInt 64 ((1 : Nat) : Int)).toNat : Int) = _
  rw [BitVec.toNat_and, BitVec.ofInt_natCast, BitVec.ofInt_natCast, BitVec.toNat_ofNat, BitVec.toNat_ofNat, Nat.mod_eq_of_lt (show q < 2 ^ 64 from hq), Nat.mod_eq_of_lt (show 1 < 2 ^ 64 by decide), IntKind.wrap_u64]
  have := Nat.and_two_pow_sub_one_eq_mod q 1
  simp only [Nat.pow_one, Nat.reduceSub] at this
  rw [this]; omega
-- bytes, the highest first
def beV (K : List Nat) : Nat := K.foldl (fun a c => a * 256 + c) 0
theorem beV_snoc (K : List Nat) (c : Nat) : beV (K ++ [c]) = beV K * 256 + c := by simp [beV]
theorem beV_nil : beV [] = 0 := rfl
theorem snocInd {P : List Nat → Prop} (h0 : P []) (h1 : ∀ K c, P K → P (K ++ [c])) : ∀ K, P K := by
  have h : ∀ L : List Nat, P L.reverse := by
    intro L
    induction L with
    | nil => exact h0
    | cons c L ih => rw [List.reverse_cons]; exact h1 _ _ ih
  intro K
  have := h K.reverse
  rwa [List.reverse_reverse] at this
theorem beV_app (A B : List Nat) : beV (A ++ B) = beV A * 256 ^ B.length + beV B := by
  refine snocInd (P := fun B => beV (A ++ B) = beV A * 256 ^ B.length + beV B) ?_ ?_ B
  · simp [beV_nil]
  · intro B c ih
    rw [← List.append_assoc, beV_snoc, ih, beV_snoc, List.length_append, List.length_singleton, Nat.pow_succ, Nat.add_mul, Nat.mul_assoc]; omega
theorem beV_lt {K : List Nat} (h : ∀ n ∈ K, n < 256) : beV K < 256 ^ K.length := by
  revert h
  refine snocInd (P := fun K => (∀ n ∈ K, n < 256) → beV K < 256 ^ K.length) ?_ ?_ K
  · simp [beV_nil]
  · intro K c ih h
    have h1 := ih fun n hn => h n (by simp [hn])
    have h2 := h c (by simp)
    rw [beV_snoc, List.length_append, List.length_singleton, Nat.pow_succ]; omega
/-- n bytes of a number, the highest first -/
def beN : Nat → Nat → List Nat
  | 0, _ => []
  | n + 1, v => beN n (v / 256) ++ [v % 256]
theorem beN_len (n v : Nat) : (beN n v).length = n := by
  induction n generalizing v with
  | zero => rfl
  | succ n ih => rw [beN, List.length_append, ih]; rfl
theorem beN_lt (n v : Nat) : ∀ d ∈ beN n v, d < 256 := by
  induction n generalizing v with
  | zero => intro d h; cases h
  | succ n ih =>
    intro d hd
    rw [beN, List.mem_append] at hd
    rcases hd with hd | hd
    · exact ih _ d hd
    · simp at hd; omega
theorem beV_beN {n v : Nat} (h : v < 256 ^ n) : beV (beN n v) = v := by
  induction n generalizing v with
  | zero => have : v = 0 := by simpa using h
            subst this; rfl
  | succ n ih => rw [beN, beV_snoc, ih (by rw [Nat.pow_succ] at h; omega)]; omega
theorem beN_beV {K : List Nat} (h : ∀ n ∈ K, n < 256) : beN K.length (beV K) = K := by
  revert h
  refine snocInd (P := fun K => (∀ n ∈ K, n < 256) → beN K.length (beV K) = K) ?_ ?_ K
  · intro _; rfl
  · intro K c ih h
    have h2 := h c (by simp)
    rw [List.length_append, List.length_singleton, beN, beV_snoc, show (beV K * 256 + c) / 256 = beV K by omega, show (beV K * 256 + c) % 256 = c by omega, ih fun n hn => h n (by simp [hn])]
theorem beN_get {n v i : Nat} (h : i < n) : (beN n v)[i]? = some (v / 256 ^ (n - 1 - i) % 256) := by
  induction n generalizing v with
  | zero => omega
  | succ n ih =>
    rw [beN]
    by_cases hi : i < n
    · rw [List.getElem?_append_left (by rw [beN_len]; exact hi), ih hi, Nat.div_div_eq_div_mul]
      congr 2
      rw [show n + 1 - 1 - i = (n - 1 - i) + 1 by omega, Nat.pow_succ, Nat.mul_comm]
    · have : i = n := by omega
      subst this
      rw [List.getElem?_append_right (by rw [beN_len]; omega), beN_len]
      simp
-- the words of times X
theorem mul_par (v : Nat) : v % 2 * EE = (v % 2 * 16212958658533785600) * 18446744073709551616 := by unfold EE; omega
theorem xor_hi (a b : Nat) : (a ^^^ b * 18446744073709551616) / 18446744073709551616 = a / 18446744073709551616 ^^^ b ∧ (a ^^^ b * 18446744073709551616) % 18446744073709551616 = a % 18446744073709551616 := by
  have e : (18446744073709551616 : Nat) = 2 ^ 64 := by decide
  rw [e]
  constructor
  · rw [Nat.xor_div_two_pow, Nat.mul_div_cancel _ (Nat.pow_pos (by omega))]
  · rw [Nat.xor_mod_two_pow, Nat.mul_mod_left, Nat.xor_zero]
theorem xt_hi (v : Nat) : xt v / 18446744073709551616 = v / 18446744073709551616 / 2 ^^^ (v % 2 * 16212958658533785600) := by
  unfold xt
  rw [mul_par, (xor_hi _ _).1]
  congr 1
  omega
theorem xt_lo (v : Nat) : xt v % 18446744073709551616 = v % 18446744073709551616 / 2 + (v / 18446744073709551616 % 2) * 9223372036854775808 := by
  unfold xt
  rw [mul_par, (xor_hi _ _).2]
  omega
theorem xor_words (a b : Nat) : (a ^^^ b) / 18446744073709551616 = a / 18446744073709551616 ^^^ b / 18446744073709551616 ∧ (a ^^^ b) % 18446744073709551616 = a % 18446744073709551616 ^^^ b % 18446744073709551616 := by
  have e : (18446744073709551616 : Nat) = 2 ^ 64 := by decide
  rw [e]
  exact ⟨Nat.xor_div_two_pow, Nat.xor_mod_two_pow⟩
/-- the bit that is looked at -/
theorem bt_hi {v n : Nat} (hn : n < 64) : (v / 18446744073709551616 / 2 ^ (63 - n) % 2 = 1) = (bt v n = true) := by
  unfold bt
  rw [show (18446744073709551616 : Nat) = 2 ^ 64 by decide, Nat.div_div_eq_div_mul, ← Nat.pow_add, show 64 + (63 - n) = 127 - n by omega, Nat.testBit_eq_decide_div_mod_eq]
  simp
theorem bt_lo {v n : Nat} (hn : 64 ≤ n) (hn2 : n < 128) : (v % 18446744073709551616 / 2 ^ (127 - n) % 2 = 1) = (bt v n = true) := by
  unfold bt
  have e : v % 18446744073709551616 / 2 ^ (127 - n) % 2 = v / 2 ^ (127 - n) % 2 := by
    obtain ⟨s, hs⟩ : ∃ s, 64 = (127 - n) + 1 + s := ⟨63 - (127 - n), by omega⟩
    rw [show (18446744073709551616 : Nat) = 2 ^ 64 by decide, hs, Nat.pow_add, Nat.pow_succ, Nat.mul_assoc]
    generalize 127 - n = k
    rw [Nat.mod_mul_right_div_self, Nat.mod_mul_right_mod]
  rw [e, Nat.testBit_eq_decide_div_mod_eq]
  simp
end GcmB
end Go.Proofs.Ytfpjpakjlhidkaa
