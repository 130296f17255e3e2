/- Plain mathematics: the products of bytes are as in a field; a block is told by its sealed one. -/
import Derived.Test.YtfpjpakjlhidkaaAesMath
namespace Go.Proofs.Ytfpjpakjlhidkaa.AesM

theorem xt_xor : ∀ x, x < 256 → ∀ y, y < 256 → xt (x ^^^ y) = xt x ^^^ xt y := by decide +kernel
theorem sm_lt {a : Nat} (b : Nat) (ha : a < 256) : ∀ k, sm a b k < 256 := by
  have hx : ∀ k, xtn k a < 256 := by
    intro k
    induction k with
    | zero => exact ha
    | succ k ih => exact xt_lt ih
  intro k
  induction k with
  | zero => show 0 < 256; omega
  | succ k ih =>
    unfold sm
    exact xor_lt ih (by split; exact hx k; omega)
theorem xtn_xor {x y : Nat} (hx : x < 256) (hy : y < 256) : ∀ k, xtn k (x ^^^ y) = xtn k x ^^^ xtn k y ∧ xtn k x < 256 ∧ xtn k y < 256 := by
  intro k
  induction k with
  | zero => exact ⟨rfl, hx, hy⟩
  | succ k ih => exact ⟨by simp only [xtn]; rw [ih.1, xt_xor _ ih.2.1 _ ih.2.2], xt_lt ih.2.1, xt_lt ih.2.2⟩
theorem xor4 (a b c d : Nat) : (a ^^^ b) ^^^ (c ^^^ d) = (a ^^^ c) ^^^ (b ^^^ d) := by
  rw [Nat.xor_assoc, ← Nat.xor_assoc b, Nat.xor_comm b, Nat.xor_assoc c, ← Nat.xor_assoc]
theorem tms_xor_left {x y : Nat} (b : Nat) (hx : x < 256) (hy : y < 256) : tms (x ^^^ y) b = tms x b ^^^ tms y b := by
  rw [tms_sm, tms_sm, tms_sm]
  have : ∀ k, sm (x ^^^ y) b k = sm x b k ^^^ sm y b k := by
    intro k
    induction k with
    | zero => simp [sm]
    | succ k ih =>
      simp only [sm]
      rw [ih]
      split
      · rw [(xtn_xor hx hy k).1, xor4]
      · simp
  exact this 8
theorem bit_xor (b c k : Nat) : ((b ^^^ c) / 2 ^ k % 2 = 1) ↔ ¬ ((b / 2 ^ k % 2 = 1) ↔ (c / 2 ^ k % 2 = 1)) := by
  have t : ∀ z : Nat, (z / 2 ^ k % 2 = 1) ↔ z.testBit k = true := by
    intro z; rw [Nat.testBit_eq_decide_div_mod_eq]; simp
  simp only [t, Nat.testBit_xor]
  cases b.testBit k <;> cases c.testBit k <;> simp
theorem tms_xor_right (a b c : Nat) : tms a (b ^^^ c) = tms a b ^^^ tms a c := by
  rw [tms_sm, tms_sm, tms_sm]
  have : ∀ k, sm a (b ^^^ c) k = sm a b k ^^^ sm a c k := by
    intro k
    induction k with
    | zero => simp [sm]
    | succ k ih =>
      simp only [sm]
      rw [ih]
      have hb := bit_xor b c k
      by_cases h1 : b / 2 ^ k % 2 = 1 <;> by_cases h2 : c / 2 ^ k % 2 = 1
      · rw [if_neg (by rw [hb]; simp [h1, h2]), if_pos h1, if_pos h2, xor4, Nat.xor_self]
      · rw [if_pos (by rw [hb]; simp [h1, h2]), if_pos h1, if_neg h2, xor4]; simp
      · rw [if_pos (by rw [hb]; simp [h1, h2]), if_neg h1, if_pos h2, xor4]; simp
      · rw [if_neg (by rw [hb]; simp [h1, h2]), if_neg h1, if_neg h2]; simp
  exact this 8
/-- Two linear maps that agree at the eight single bits agree at all bytes. -/
theorem lin_ext {f g : Nat → Nat} (hf : ∀ x, x < 256 → ∀ y, y < 256 → f (x ^^^ y) = f x ^^^ f y) (hg : ∀ x, x < 256 → ∀ y, y < 256 → g (x ^^^ y) = g x ^^^ g y)
    (hb : ∀ i, i < 8 → f (2 ^ i) = g (2 ^ i)) : ∀ x, x < 256 → f x = g x := by
  have h0 : f 0 = g 0 := by
    have a := hf 0 (by omega) 0 (by omega)
    have b := hg 0 (by omega) 0 (by omega)
    simp only [Nat.xor_self] at a b
    rw [a, b]
  have key : ∀ n, n ≤ 8 → ∀ x, x < 2 ^ n → f x = g x := by
    intro n
    induction n with
    | zero => intro _ x hx; obtain rfl : x = 0 := by omega
              exact h0
    | succ n ih =>
      intro hn x hx
      have hp : 2 ^ n ≤ 128 := Nat.pow_le_pow_right (j := 7) (by omega) (by omega)
      by_cases hlt : x < 2 ^ n
      · exact ih (by omega) x hlt
      · have hx2 : x = (x - 2 ^ n) ^^^ 2 ^ n := by
          have h1 : x - 2 ^ n < 2 ^ n := by rw [Nat.pow_succ] at hx; omega
          rw [Nat.xor_comm]
          have h2 : 2 ^ n ^^^ (x - 2 ^ n) = 2 ^ n + (x - 2 ^ n) := by
            have := Nat.two_pow_add_eq_or_of_lt h1 1
            rw [Nat.mul_one] at this
            rw [this]
            apply Nat.eq_of_testBit_eq
            intro i
            simp only [Nat.testBit_xor, Nat.testBit_or, Nat.testBit_two_pow]
            by_cases hi : n = i
            · subst hi
              rw [Nat.testBit_lt_two_pow h1]; simp
            · simp [hi]
          omega
        have h1 : x - 2 ^ n < 2 ^ n := by rw [Nat.pow_succ] at hx; omega
        rw [hx2, hf _ (by omega) _ (by omega), hg _ (by omega) _ (by omega), ih (by omega) _ h1, hb n (by omega)]
  exact key 8 (Nat.le_refl _)
theorem tms_comm {a b : Nat} (ha : a < 256) (hb : b < 256) : tms a b = tms b a := by
  refine lin_ext (f := fun x => tms x b) (g := fun x => tms b x) (fun x hx y hy => tms_xor_left b hx hy) (fun x _ y _ => tms_xor_right b x y) ?_ a ha
  intro i hi
  have hi2 : 2 ^ i < 256 := by
    have : 2 ^ i ≤ 128 := Nat.pow_le_pow_right (j := 7) (by omega) (by omega)
    omega
  refine lin_ext (f := fun y => tms (2 ^ i) y) (g := fun y => tms y (2 ^ i)) (fun x _ y _ => tms_xor_right _ x y) (fun x hx y hy => tms_xor_left _ hx hy) ?_ b hb
  have : ∀ i, i < 8 → ∀ j, j < 8 → tms (2 ^ i) (2 ^ j) = tms (2 ^ j) (2 ^ i) := by decide +kernel
  exact this i hi
theorem pow_lt8 {i : Nat} (hi : i < 8) : 2 ^ i < 256 := by
  have : 2 ^ i ≤ 128 := Nat.pow_le_pow_right (j := 7) (by omega) (by omega)
  omega
theorem tms_assoc {a b c : Nat} (ha : a < 256) (hb : b < 256) (hc : c < 256) : tms (tms a b) c = tms a (tms b c) := by
  refine lin_ext (f := fun x => tms (tms x b) c) (g := fun x => tms x (tms b c)) (fun x hx y hy => ?_) (fun x hx y hy => tms_xor_left _ hx hy) ?_ a ha
  · rw [tms_xor_left b hx hy, tms_xor_left c (tms_lt _ hx) (tms_lt _ hy)]
  intro i hi
  refine lin_ext (f := fun x => tms (tms (2 ^ i) x) c) (g := fun x => tms (2 ^ i) (tms x c)) (fun x _ y _ => ?_) (fun x hx y hy => ?_) ?_ b hb
  · rw [tms_xor_right, tms_xor_left c (tms_lt _ (pow_lt8 hi)) (tms_lt _ (pow_lt8 hi))]
  · rw [tms_xor_left c hx hy, tms_xor_right]
  intro j hj
  refine lin_ext (f := fun x => tms (tms (2 ^ i) (2 ^ j)) x) (g := fun x => tms (2 ^ i) (tms (2 ^ j) x)) (fun x _ y _ => tms_xor_right _ x y) (fun x _ y _ => ?_) ?_ c hc
  · rw [tms_xor_right, tms_xor_right]
  have : ∀ i, i < 8 → ∀ j, j < 8 → ∀ k, k < 8 → tms (tms (2 ^ i) (2 ^ j)) (2 ^ k) = tms (2 ^ i) (tms (2 ^ j) (2 ^ k)) := by decide +kernel
  exact this i hi j hj
theorem tms_one {a : Nat} (_ha : a < 256) : tms a 1 = a := by
  rw [tms_sm]; simp [sm, xtn]
/-- the inverse: to the power 254 -/
def inv254 (a : Nat) : Nat :=
  let a2 := tms a a
  let a4 := tms a2 a2
  let a8 := tms a4 a4
  let a16 := tms a8 a8
  let a32 := tms a16 a16
  let a64 := tms a32 a32
  let a128 := tms a64 a64
  tms a2 (tms a4 (tms a8 (tms a16 (tms a32 (tms a64 a128)))))
theorem inv254_ok : ∀ a, a < 256 → a ≠ 0 → tms (inv254 a) a = 1 ∧ inv254 a < 256 := by decide +kernel
theorem tms_ne {a b : Nat} (ha : a < 256) (hb : b < 256) (ha0 : a ≠ 0) (hb0 : b ≠ 0) : tms a b ≠ 0 := by
  intro h
  obtain ⟨h1, h2⟩ := inv254_ok a ha ha0
  have h3 := tms_assoc h2 ha hb
  rw [h1, h, tms_comm (by omega) hb, tms_one hb] at h3
  apply hb0
  rw [h3, tms_sm]
  have : ∀ k, sm (inv254 a) 0 k = 0 := by
    intro k
    induction k with
    | zero => rfl
    | succ k ih => simp [sm, ih]
  exact this 8
theorem boxL_inj : ∀ a, a < 256 → ∀ b, b < 256 → boxL.getD a 0 = boxL.getD b 0 → a = b := by
  have hn : boxL.Nodup := by decide +kernel
  intro a ha b hb h
  have hl : boxL.length = 256 := boxL_len
  simp only [List.getD_eq_getElem?_getD, List.getElem?_eq_getElem (show a < boxL.length by omega), List.getElem?_eq_getElem (show b < boxL.length by omega), Option.getD_some] at h
  exact (List.getElem_inj hn).mp h
end Go.Proofs.Ytfpjpakjlhidkaa.AesM
