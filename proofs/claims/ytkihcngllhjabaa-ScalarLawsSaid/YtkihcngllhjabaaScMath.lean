/- Plain: four words of 64 bits, the lowest first; the order L. -/
import Derived.WalkKit
namespace Go.Proofs.Ytkihcngllhjabaa
namespace ScM
/-- the order -/
def L : Nat := 7237005577332262213973186563042994240857116359379907606001950938285454250989
/-- a word of a number -/
def wd (n : Nat) : Nat → Nat
  | 0 => n % 18446744073709551616
  | 1 => n / 18446744073709551616 % 18446744073709551616
  | 2 => n / 340282366920938463463374607431768211456 % 18446744073709551616
  | 3 => n / 6277101735386680763835789423207666416102355444464034512896 % 18446744073709551616
  | _ => 0
def u6 (n : Nat) : Value := .int .u64 (n : Int)
/-- four words of a number -/
def w4 (n : Nat) : Array Value := #[u6 (wd n 0), u6 (wd n 1), u6 (wd n 2), u6 (wd n 3)]
/-- what is borrowed at a place -/
def bor (a b : Nat) : Nat → Nat
  | 0 => 0
  | 1 => if a % 18446744073709551616 < b % 18446744073709551616 then 1 else 0
  | 2 => if a % 340282366920938463463374607431768211456 < b % 340282366920938463463374607431768211456 then 1 else 0
  | 3 => if a % 6277101735386680763835789423207666416102355444464034512896 < b % 6277101735386680763835789423207666416102355444464034512896 then 1 else 0
  | _ => if a < b then 1 else 0
/-- what is carried at a place -/
def car (a b : Nat) : Nat → Nat
  | 0 => 0
  | 1 => (a % 18446744073709551616 + b % 18446744073709551616) / 18446744073709551616
  | 2 => (a % 340282366920938463463374607431768211456 + b % 340282366920938463463374607431768211456) / 340282366920938463463374607431768211456
  | 3 => (a % 6277101735386680763835789423207666416102355444464034512896 + b % 6277101735386680763835789423207666416102355444464034512896) / 6277101735386680763835789423207666416102355444464034512896
  | _ => (a + b) / 115792089237316195423570985008687907853269984665640564039457584007913129639936
theorem wd_lt (n i : Nat) : wd n i < 18446744073709551616 := by
  unfold wd; split <;> omega
theorem bor_le (a b i : Nat) : bor a b i ≤ 1 := by
  unfold bor; split <;> (try split) <;> omega
theorem car_le (a b i : Nat) (ha : a < 115792089237316195423570985008687907853269984665640564039457584007913129639936) (hb : b < 115792089237316195423570985008687907853269984665640564039457584007913129639936) : car a b i ≤ 1 := by
  unfold car; split <;> omega
def dif (a b : Nat) : Nat := (a + 115792089237316195423570985008687907853269984665640564039457584007913129639936 - b) % 115792089237316195423570985008687907853269984665640564039457584007913129639936
def sm (a b : Nat) : Nat := (a + b) % 115792089237316195423570985008687907853269984665640564039457584007913129639936
theorem sub_word (a b i : Nat) (hi : i < 4) (ha : a < 115792089237316195423570985008687907853269984665640564039457584007913129639936) (hb : b < 115792089237316195423570985008687907853269984665640564039457584007913129639936) :
    (wd a i + 18446744073709551616 - wd b i - bor a b i) % 18446744073709551616 = wd (dif a b) i ∧ (if wd a i < wd b i + bor a b i then 1 else 0) = bor a b (i + 1) := by
  obtain rfl | rfl | rfl | rfl : i = 0 ∨ i = 1 ∨ i = 2 ∨ i = 3 := by omega
  all_goals
    simp only [wd, bor, dif]
    refine ⟨?_, ?_⟩
    · (try split) <;> omega
    · split <;> split <;> (try split at *) <;> omega
theorem add_word (a b i : Nat) (hi : i < 4) (ha : a < 115792089237316195423570985008687907853269984665640564039457584007913129639936) (hb : b < 115792089237316195423570985008687907853269984665640564039457584007913129639936) :
    (wd a i + wd b i + car a b i) % 18446744073709551616 = wd (sm a b) i ∧ (wd a i + wd b i + car a b i) / 18446744073709551616 = car a b (i + 1) := by
  obtain rfl | rfl | rfl | rfl : i = 0 ∨ i = 1 ∨ i = 2 ∨ i = 3 := by omega
  all_goals
    simp only [wd, car, sm]
    refine ⟨by omega, by omega⟩
theorem wd_val (n : Nat) (hn : n < 115792089237316195423570985008687907853269984665640564039457584007913129639936) : wd n 0 + 18446744073709551616 * wd n 1 + 340282366920938463463374607431768211456 * wd n 2 + 6277101735386680763835789423207666416102355444464034512896 * wd n 3 = n := by
  simp only [wd]; omega
theorem w4_inj {a b : Nat} (ha : a < 115792089237316195423570985008687907853269984665640564039457584007913129639936) (hb : b < 115792089237316195423570985008687907853269984665640564039457584007913129639936) (h : ∀ i, i < 4 → wd a i = wd b i) : a = b := by
  rw [← wd_val a ha, ← wd_val b hb, h 0 (by omega), h 1 (by omega), h 2 (by omega), h 3 (by omega)]
/-- What words stand for. -/
def wv : List Nat → Nat
  | [] => 0
  | d :: L => d + 18446744073709551616 * wv L
def Wds (L : List Nat) : Prop := ∀ d ∈ L, d < 18446744073709551616
theorem wv_append (A B : List Nat) : wv (A ++ B) = wv A + 18446744073709551616 ^ A.length * wv B := by
  induction A with
  | nil => simp [wv]
  | cons d A ih => rw [List.cons_append, wv, wv, ih, List.length_cons, Nat.pow_succ, Nat.mul_add, Nat.mul_comm (18446744073709551616 ^ A.length) 18446744073709551616, Nat.mul_assoc]; omega
theorem wv_zeros (n : Nat) : wv (List.replicate n 0) = 0 := by
  induction n with
  | zero => rfl
  | succ n ih => rw [List.replicate_succ, wv, ih]
theorem wv_snoc (L : List Nat) (d : Nat) : wv (L ++ [d]) = wv L + 18446744073709551616 ^ L.length * d := by
  rw [wv_append]; simp [wv]
theorem wv_set {L : List Nat} {i x : Nat} (h : L[i]? = some x) (d : Nat) : wv (L.set i d) + 18446744073709551616 ^ i * x = wv L + 18446744073709551616 ^ i * d := by
  induction L generalizing i with
  | nil => simp at h
  | cons y L ih =>
    cases i with
    | zero =>
      have : y = x := by simpa using h
      subst this
      simp only [List.set_cons_zero, wv, Nat.pow_zero]; omega
    | succ i =>
      have := ih (i := i) (by simpa using h)
      simp only [List.set_cons_succ, wv]
      rw [Nat.pow_succ, Nat.mul_comm (18446744073709551616 ^ i) 18446744073709551616, Nat.mul_assoc, Nat.mul_assoc]; omega
theorem wv_lt {L : List Nat} (h : Wds L) : wv L < 18446744073709551616 ^ L.length := by
  induction L with
  | nil => simp [wv]
  | cons d L ih =>
    have h1 := h d (List.mem_cons_self ..)
    have h2 := ih fun x hx => h x (List.mem_cons_of_mem _ hx)
    rw [wv, List.length_cons, Nat.pow_succ]; omega
theorem wv_div {W : List Nat} (h : Wds W) (i x : Nat) (hx : W[i]? = some x) : wv W / 18446744073709551616 ^ i % 18446744073709551616 = x := by
  induction W generalizing i with
  | nil => simp at hx
  | cons y W ih =>
    have hy := h y (List.mem_cons_self ..)
    cases i with
    | zero =>
      have : y = x := by simpa using hx
      subst this
      simp only [wv, Nat.pow_zero, Nat.div_one]; omega
    | succ i =>
      have := ih (fun z hz => h z (List.mem_cons_of_mem _ hz)) i (by simpa using hx)
      rw [wv, Nat.pow_succ', ← Nat.div_div_eq_div_mul, show (y + 18446744073709551616 * wv W) / 18446744073709551616 = wv W from by omega]
      exact this
/-- a bit of words -/
theorem wv_bit {W : List Nat} (h : Wds W) (k x : Nat) (hx : W[k / 64]? = some x) : x / 2 ^ (k % 64) % 2 = wv W / 2 ^ k % 2 := by
  obtain ⟨q, r, hr, rfl⟩ : ∃ q r, r < 64 ∧ k = 64 * q + r := ⟨k / 64, k % 64, Nat.mod_lt _ (by omega), (Nat.div_add_mod k 64).symm⟩
  have e1 : (64 * q + r) / 64 = q := by omega
  have e2 : (64 * q + r) % 64 = r := by omega
  rw [e1] at hx
  rw [e2, ← wv_div h q x hx]
  have e : (18446744073709551616 : Nat) = 2 ^ 64 := by decide
  rw [e, ← Nat.pow_mul, Nat.pow_add, ← Nat.div_div_eq_div_mul]
  obtain ⟨v, hv⟩ : ∃ v, v = wv W / 2 ^ (64 * q) := ⟨_, rfl⟩
  rw [← hv]
  obtain ⟨s, hs⟩ : ∃ s, 64 = r + 1 + s := ⟨63 - r, by omega⟩
  rw [hs, Nat.pow_add, Nat.pow_succ, Nat.mul_assoc, Nat.mod_mul_right_div_self, Nat.mod_mul_right_mod]
/-- one bit more of a remainder -/
theorem rem_bit (V k : Nat) : (2 * (V / 2 ^ (k + 1) % L) + V / 2 ^ k % 2) % L = V / 2 ^ k % L := by
  have e : V / 2 ^ (k + 1) = V / 2 ^ k / 2 := by rw [Nat.pow_succ, Nat.div_div_eq_div_mul]
  rw [e]
  obtain ⟨v, hv⟩ : ∃ v, v = V / 2 ^ k := ⟨_, rfl⟩
  rw [← hv]
  unfold L
  omega
-- the product
theorem mmod_step (n i : Nat) : n % 18446744073709551616 ^ (i + 1) = n % 18446744073709551616 ^ i + 18446744073709551616 ^ i * (n / 18446744073709551616 ^ i % 18446744073709551616) := Nat.mod_pow_succ
theorem mpow_step (i : Nat) : 18446744073709551616 ^ (i + 1) = 18446744073709551616 ^ i * 18446744073709551616 := by rw [Nat.pow_succ]
def wg (n i : Nat) : Nat := n / 18446744073709551616 ^ i % 18446744073709551616
theorem mul_in {W i k p y c o x B : Nat} (h : o + 18446744073709551616 ^ (i + k) * c = W + 18446744073709551616 ^ i * (y * (B % 18446744073709551616 ^ k))) {o' : Nat}
    (hp : p = x + y * wg B k + c) (ho : o' + 18446744073709551616 ^ (i + k) * x = o + 18446744073709551616 ^ (i + k) * (p % 18446744073709551616)) :
    o' + 18446744073709551616 ^ (i + (k + 1)) * (p / 18446744073709551616) = W + 18446744073709551616 ^ i * (y * (B % 18446744073709551616 ^ (k + 1))) := by
  rw [mmod_step, ← Nat.add_assoc, mpow_step]
  show _ = W + 18446744073709551616 ^ i * (y * (B % 18446744073709551616 ^ k + 18446744073709551616 ^ k * wg B k))
  have e : 18446744073709551616 ^ (i + k) * p = 18446744073709551616 ^ (i + k) * x + 18446744073709551616 ^ (i + k) * (y * wg B k) + 18446744073709551616 ^ (i + k) * c := by rw [hp, Nat.mul_add, Nat.mul_add]
  have e2 : 18446744073709551616 ^ (i + k) * (p % 18446744073709551616) + 18446744073709551616 ^ (i + k) * 18446744073709551616 * (p / 18446744073709551616) = 18446744073709551616 ^ (i + k) * p := by
    rw [Nat.mul_assoc, ← Nat.mul_add]; congr 1; omega
  have e3 : 18446744073709551616 ^ i * (y * (B % 18446744073709551616 ^ k + 18446744073709551616 ^ k * wg B k)) = 18446744073709551616 ^ i * (y * (B % 18446744073709551616 ^ k)) + 18446744073709551616 ^ (i + k) * (y * wg B k) := by
    rw [Nat.mul_add, Nat.mul_add, Nat.pow_add]
    congr 1
    rw [Nat.mul_assoc]
    congr 1
    rw [← Nat.mul_assoc, ← Nat.mul_assoc, Nat.mul_comm y]
  omega
theorem mul_out {A B i o o' c : Nat} (hB : B < 18446744073709551616 ^ 4) (h : o + 18446744073709551616 ^ (i + 4) * c = A % 18446744073709551616 ^ i * B + 18446744073709551616 ^ i * (wg A i * (B % 18446744073709551616 ^ 4))) (ho : o' = o + 18446744073709551616 ^ (i + 4) * c) :
    o' = A % 18446744073709551616 ^ (i + 1) * B := by
  rw [Nat.mod_eq_of_lt hB] at h
  rw [ho, h, mmod_step, Nat.add_mul, Nat.mul_assoc]; rfl
theorem wd_wg (n i : Nat) (hi : i < 4) : wd n i = wg n i := by
  obtain rfl | rfl | rfl | rfl : i = 0 ∨ i = 1 ∨ i = 2 ∨ i = 3 := by omega
  all_goals simp [wd, wg]
end ScM
end Go.Proofs.Ytkihcngllhjabaa
