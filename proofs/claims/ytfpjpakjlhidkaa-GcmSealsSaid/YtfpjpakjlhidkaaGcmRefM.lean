/- Plain: coefficients of a block; the reference's product. -/
import Derived.Test.YtfpjpakjlhidkaaGcmBits
import Derived.Test.YtfpjpakjlhidkaaAesRefBlock
import Derived.Test.YtfpjpakjlhidkaaGcmMsk
namespace Go.Proofs.Ytfpjpakjlhidkaa
open Go.RowKit AesM GcmM GcmB
set_option linter.unusedVariables false
def pv (b : Bool) : Nat := if b then 1 else 0
theorem byte_at {B : List Nat} (hB : ∀ n ∈ B, n < 256) (hl : B.length = 16) {q : Nat} (hq : q < 16) : B.getD q 0 = beV B / 256 ^ (15 - q) % 256 := by
  have h := beN_get (n := 16) (v := beV B) hq
  have e := beN_beV hB
  rw [hl] at e
  rw [e] at h
  rw [List.getD_eq_getElem?_getD, h]
  rfl
theorem mod_bit (y k : Nat) (hk : k < 8) : y / 2 ^ k % 2 = y % 256 / 2 ^ k % 2 := by
  rcases (show k = 0 ∨ k = 1 ∨ k = 2 ∨ k = 3 ∨ k = 4 ∨ k = 5 ∨ k = 6 ∨ k = 7 by omega) with rfl | rfl | rfl | rfl | rfl | rfl | rfl | rfl <;> omega
theorem bt_div (V n : Nat) (hn : n < 128) : (if bt V n then 1 else 0) = V / 256 ^ (15 - n / 8) % 256 / 2 ^ (7 - n % 8) % 2 := by
  rw [← mod_bit _ _ (by omega), Nat.div_div_eq_div_mul, show (256 : Nat) = 2 ^ 8 from rfl, ← Nat.pow_mul, ← Nat.pow_add, show 8 * (15 - n / 8) + (7 - n % 8) = 127 - n by omega]
  unfold bt
  rw [Nat.testBit_eq_decide_div_mod_eq]
  have := Nat.mod_two_eq_zero_or_one (V / 2 ^ (127 - n))
  rcases this with h | h <;> rw [h] <;> rfl
theorem bit_at {B : List Nat} (hB : ∀ n ∈ B, n < 256) (hl : B.length = 16) {n : Nat} (hn : n < 128) : B.getD (n / 8) 0 / 2 ^ (7 - n % 8) % 2 = pv (bt (beV B) n) := by
  rw [byte_at hB hl (by omega), ← bt_div _ _ hn]; rfl
/-- coefficients as numbers -/
def pL (p : Nat → Bool) : List Nat := (List.range 255).map fun i => pv (p i)
theorem pL_len (p : Nat → Bool) : (pL p).length = 255 := by simp only [pL, List.length_map, List.length_range]
theorem pL_get (p : Nat → Bool) {i : Nat} (h : i < 255) : (pL p).getD i 0 = pv (p i) := by
  rw [pL, List.getD_eq_getElem?_getD, List.getElem?_map, List.getElem?_range h]; rfl
theorem pL_flip (p : Nat → Bool) {j : Nat} (h : j < 255) : pL (flip p j) = (pL p).set j (1 - pv (p j)) := by
  refine ext_getD (by rw [List.length_set, pL_len, pL_len]) fun i hi => ?_
  rw [pL_len] at hi
  rw [pL_get _ hi, set_getD, pL_len, pL_get _ hi]
  unfold GcmM.flip
  by_cases e : i = j
  · subst e
    rw [if_pos rfl, if_pos ⟨rfl, hi⟩]
    cases p i <;> rfl
  · rw [if_neg e, if_neg (fun h => e h.1.symm)]
theorem flip_ne {p : Nat → Bool} {i j : Nat} (h : i ≠ j) : GcmM.flip p j i = p i := by unfold GcmM.flip; rw [if_neg h]
theorem flip_eq {p : Nat → Bool} {j : Nat} : GcmM.flip p j j = !(p j) := by unfold GcmM.flip; rw [if_pos rfl]
/-- bits of a byte -/
def byP (q : Nat → Bool) : Nat → Nat
  | 0 => 0
  | m + 1 => byP q m + (if q m then 2 ^ (7 - m) else 0)
theorem byP_lt (q : Nat → Bool) : ∀ m, m ≤ 8 → byP q m + 2 ^ (8 - m) ≤ 256 := by
  intro m
  induction m with
  | zero => intro _; simp [byP]
  | succ m ih =>
    intro h
    have := ih (by omega)
    rw [byP]
    have e : 2 ^ (8 - m) = 2 * 2 ^ (7 - m) := by rw [show 8 - m = (7 - m) + 1 by omega, Nat.pow_succ, Nat.mul_comm]
    rw [e] at this
    rw [show 8 - (m + 1) = 7 - m by omega]
    split <;> omega
theorem byP_of {x : Nat} (hx : x < 256) (q : Nat → Bool) (h : ∀ t, t < 8 → pv (q t) = x / 2 ^ (7 - t) % 2) : byP q 8 = x := by
  have e : ∀ t, (if q t then 2 ^ (7 - t) else 0) = pv (q t) * 2 ^ (7 - t) := by intro t; unfold pv; split <;> simp
  simp only [byP, e]
  rw [h 0 (by omega), h 1 (by omega), h 2 (by omega), h 3 (by omega), h 4 (by omega), h 5 (by omega), h 6 (by omega), h 7 (by omega)]
  simp only [Nat.sub_zero, Nat.reduceSub, Nat.reducePow]
  omega
/-- what is laid out after i coefficients -/
def oL (p : Nat → Bool) (i : Nat) : List Nat := (List.range 16).map fun j => byP (fun t => p (8 * j + t)) (min 8 (i - 8 * j))
theorem oL_len (p : Nat → Bool) (i : Nat) : (oL p i).length = 16 := by simp only [oL, List.length_map, List.length_range]
theorem oL_get (p : Nat → Bool) (i : Nat) {j : Nat} (h : j < 16) : (oL p i).getD j 0 = byP (fun t => p (8 * j + t)) (min 8 (i - 8 * j)) := by
  rw [oL, List.getD_eq_getElem?_getD, List.getElem?_map, List.getElem?_range h]; rfl
theorem oL_zero (p : Nat → Bool) : oL p 0 = List.replicate 16 0 := by
  refine ext_getD (by rw [oL_len]; simp) fun j hj => ?_
  rw [oL_len] at hj
  rw [oL_get _ _ hj, show min 8 (0 - 8 * j) = 0 by omega]
  rw [List.getD_eq_getElem?_getD, List.getElem?_replicate, if_pos hj]; rfl
theorem oL_step (p : Nat → Bool) {i : Nat} (h : i < 128) : oL p (i + 1) = (oL p i).set (i / 8) ((oL p i).getD (i / 8) 0 + (if p i then 2 ^ (7 - i % 8) else 0)) := by
  refine ext_getD (by rw [List.length_set, oL_len, oL_len]) fun j hj => ?_
  rw [oL_len] at hj
  rw [oL_get _ _ hj, set_getD, oL_len, oL_get _ _ (show i / 8 < 16 by omega), oL_get _ _ hj]
  by_cases e : i / 8 = j
  · rw [if_pos ⟨e, hj⟩, e, show min 8 (i + 1 - 8 * j) = (i - 8 * j) + 1 by omega, show min 8 (i - 8 * j) = i - 8 * j by omega, byP, show 8 * j + (i - 8 * j) = i by omega, show i - 8 * j = i % 8 by omega]
  · rw [if_neg (fun h => e h.1)]
    congr 1
    omega
theorem oL_bound (p : Nat → Bool) {i : Nat} (h : i < 128) : (oL p i).getD (i / 8) 0 + 2 ^ (7 - i % 8) < 256 := by
  rw [oL_get _ _ (show i / 8 < 16 by omega)]
  have := byP_lt (fun t => p (8 * (i / 8) + t)) (i % 8) (by omega)
  rw [show min 8 (i - 8 * (i / 8)) = i % 8 by omega]
  have e : 2 ^ (8 - i % 8) = 2 * 2 ^ (7 - i % 8) := by rw [show 8 - i % 8 = (7 - i % 8) + 1 by omega, Nat.pow_succ, Nat.mul_comm]
  have e2 : 0 < 2 ^ (7 - i % 8) := Nat.pow_pos (by omega)
  omega
theorem bt_zero (i : Nat) : bt 0 i = false := by simp [bt]
theorem bt_phi (p : Nat → Bool) : ∀ n, n ≤ 128 → ∀ i, i < 128 → bt (phi p n) i = (decide (i < n) && p i) := by
  intro n
  induction n with
  | zero => intro _ i _; simp [phi, bt_zero]
  | succ n ih =>
    intro hn i hi
    rw [phi, bt_xor, ih (by omega) i hi]
    by_cases e : i = n
    · subst e
      have : decide (i < i) = false := by simp
      have h2 : decide (i < i + 1) = true := by simp
      rw [this, h2]
      cases hp : p i
      · simp [bt_zero]
      · simp [xtn_ee0 hi, bt_ee hi hi]
    · have h3 : decide (i < n + 1) = decide (i < n) := by
        by_cases h : i < n
        · simp [h, show i < n + 1 by omega]
        · simp [h, show ¬ i < n + 1 by omega]
      rw [h3]
      cases hp : p n
      · simp [bt_zero]
      · simp [xtn_ee0 (show n < 128 by omega), bt_ee (show n < 128 by omega) hi, e]
theorem oL_end (p : Nat → Bool) : oL p 128 = beN 16 (phi p 128) := by
  refine ext_getD (by rw [oL_len, beN_len]) fun j hj => ?_
  rw [oL_len] at hj
  rw [oL_get _ _ hj, List.getD_eq_getElem?_getD, beN_get hj, show min 8 (128 - 8 * j) = 8 by omega]
  refine byP_of (Nat.mod_lt _ (by omega)) _ fun t ht => ?_
  have h := bt_div (phi p 128) (8 * j + t) (by omega)
  rw [bt_phi p 128 (Nat.le_refl _) _ (by omega), show (8 * j + t) / 8 = j by omega, show (8 * j + t) % 8 = t by omega] at h
  rw [show 16 - 1 - j = 15 - j by omega, ← h]
  unfold pv
  simp [show 8 * j + t < 128 by omega]
end Go.Proofs.Ytfpjpakjlhidkaa
