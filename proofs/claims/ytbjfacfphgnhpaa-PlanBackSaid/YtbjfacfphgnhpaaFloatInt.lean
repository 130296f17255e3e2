/- Floats that stand for whole numbers: sums, products, comparisons. -/
import Derived.Laws.FloatArith
import Derived.Laws.ComplexArith
namespace Go.Proofs.Ytbjfacfphgnhpaa.FloatM
open Go Ieee
/-- what a datum of a whole number looks like: its size times 2 to the k, at the place -k -/
def Rep (d : Datum) (n : Int) : Prop := ∃ (s : Bool) (k : Nat), d = .number s (n.natAbs * 2 ^ k) (-(k : Int)) ∧ (n ≠ 0 → s = decide (n < 0))
/-- the word b stands for the whole number n -/
def IsF (b : Nat) (n : Int) : Prop := Rep (Ieee.double.read b) n
theorem pow_pos2 (k : Nat) : 0 < 2 ^ k := Nat.pos_of_ne_zero (by simp)
/-- the word of a whole number of at most 53 digits -/
def wordOf (s : Bool) (N : Nat) : Nat := double.word s ((1022 + N.log2) * 2 ^ 52 + N * 2 ^ (52 - N.log2))
theorem log_le {N : Nat} (h0 : 0 < N) (h : N < 2 ^ 53) : N.log2 ≤ 52 := by
  have := (Nat.log2_lt (by omega)).2 h
  omega
theorem sig_bounds {N : Nat} (h0 : 0 < N) (h : N < 2 ^ 53) : 2 ^ 52 ≤ N * 2 ^ (52 - N.log2) ∧ N * 2 ^ (52 - N.log2) < 2 ^ 53 := by
  have hl := log_le h0 h
  have h1 := Nat.log2_self_le (n := N) (by omega)
  have h2 : N < 2 ^ (N.log2 + 1) := Nat.lt_log2_self
  have hp := pow_pos2 (52 - N.log2)
  constructor
  · calc 2 ^ 52 = 2 ^ N.log2 * 2 ^ (52 - N.log2) := by rw [← Nat.pow_add]; congr 1; omega
      _ ≤ _ := Nat.mul_le_mul_right _ h1
  · calc N * 2 ^ (52 - N.log2) < 2 ^ (N.log2 + 1) * 2 ^ (52 - N.log2) := Nat.mul_lt_mul_of_pos_right h2 hp
      _ = 2 ^ 53 := by rw [← Nat.pow_add]; congr 1; omega
theorem log_shift {N k : Nat} (h0 : 0 < N) : (N * 2 ^ k).log2 = N.log2 + k := by
  have h1 := Nat.log2_self_le (n := N) (by omega)
  have h2 : N < 2 ^ (N.log2 + 1) := Nat.lt_log2_self
  have hp := pow_pos2 k
  have hN : N * 2 ^ k ≠ 0 := by
    intro e
    rcases Nat.mul_eq_zero.1 e with h | h <;> omega
  rw [Nat.log2_eq_iff hN]
  constructor
  · rw [Nat.pow_add]; exact Nat.mul_le_mul_right _ h1
  · have e : 2 ^ (N.log2 + k + 1) = 2 ^ (N.log2 + 1) * 2 ^ k := by rw [← Nat.pow_add]; congr 1; omega
    rw [e]
    exact Nat.mul_lt_mul_of_pos_right h2 hp
theorem cut_exact (s : Bool) (m drop : Nat) (hd : drop ≤ (m * 2 ^ drop).log2 + 2) : Toward.even.cut s (m * 2 ^ drop) drop = m := by
  unfold Toward.cut
  rw [Nat.min_eq_left hd, Nat.one_shiftLeft]
  have hp := pow_pos2 drop
  simp only [Nat.mul_div_cancel _ hp, Nat.mul_mod_left]
  have h1 : ¬ (2 ^ drop < 2 * 0) := by omega
  have h2 : (2 ^ drop == 2 * 0) = false := by rw [beq_eq_false_iff_ne]; omega
  simp [h1, h2]
theorem nearest_int (s : Bool) {N k : Nat} (h0 : 0 < N) (h : N < 2 ^ 53) : double.nearest s (N * 2 ^ k) (-(k : Int)) = wordOf s N := by
  have hl := log_le h0 h
  have hs := sig_bounds h0 h
  have hp := pow_pos2 k
  have hN : N * 2 ^ k ≠ 0 := by
    intro e
    rcases Nat.mul_eq_zero.1 e with h | h <;> omega
  unfold Format.nearest
  rw [if_neg hN, log_shift h0]
  have el : max (-(k : Int) + ((N.log2 + k : Nat) : Int) - (double.fractionBits : Int)) double.leastPlace = (N.log2 : Int) - 52 := by
    show max (-(k : Int) + ((N.log2 + k : Nat) : Int) - 52) (2 - 2 ^ 10 - 52) = _
    omega
  simp only [el]
  have e1 : (((N.log2 : Int) - 52 - double.leastPlace).toNat) = 1022 + N.log2 := by
    show ((N.log2 : Int) - 52 - (2 - 2 ^ 10 - 52)).toNat = _
    omega
  have key : Toward.even.cut s ((N * 2 ^ k) <<< (-(k : Int) - ((N.log2 : Int) - 52)).toNat) (((N.log2 : Int) - 52) - -(k : Int)).toNat = N * 2 ^ (52 - N.log2) := by
    rcases Nat.lt_or_ge k (52 - N.log2) with hk | hk
    · have a1 : (-(k : Int) - ((N.log2 : Int) - 52)).toNat = 52 - N.log2 - k := by omega
      have a2 : (((N.log2 : Int) - 52) - -(k : Int)).toNat = 0 := by omega
      rw [a1, a2, Nat.shiftLeft_eq, Nat.mul_assoc, ← Nat.pow_add, show k + (52 - N.log2 - k) = 52 - N.log2 by omega]
      have := cut_exact s (N * 2 ^ (52 - N.log2)) 0 (by omega)
      simpa using this
    · obtain ⟨j, rfl⟩ : ∃ j, k = 52 - N.log2 + j := ⟨k - (52 - N.log2), by omega⟩
      have a1 : (-((52 - N.log2 + j : Nat) : Int) - ((N.log2 : Int) - 52)).toNat = 0 := by omega
      have a2 : (((N.log2 : Int) - 52) - -((52 - N.log2 + j : Nat) : Int)).toNat = j := by omega
      rw [a1, a2, Nat.shiftLeft_zero, Nat.pow_add, ← Nat.mul_assoc]
      refine cut_exact s (N * 2 ^ (52 - N.log2)) j ?_
      rw [log_shift (by omega)]
      omega
  rw [key, e1]
  unfold wordOf
  congr 1
  have hb : double.binade = 2 ^ 52 := rfl
  have hi : double.infRung = 2047 * 2 ^ 52 := rfl
  rw [hb, hi]
  have : (1022 + N.log2) * 2 ^ 52 ≤ 1074 * 2 ^ 52 := Nat.mul_le_mul_right _ (by omega)
  omega
theorem read_word (s : Bool) {N : Nat} (h0 : 0 < N) (h : N < 2 ^ 53) : double.read (wordOf s N) = .number s (N * 2 ^ (52 - N.log2)) (-((52 - N.log2 : Nat) : Int)) := by
  have hl := log_le h0 h
  obtain ⟨b1, b2⟩ := sig_bounds h0 h
  obtain ⟨q, hq⟩ : ∃ q, q = N * 2 ^ (52 - N.log2) := ⟨_, rfl⟩
  unfold wordOf
  rw [← hq] at b1 b2 ⊢
  obtain ⟨l, hll⟩ : ∃ l, l = N.log2 := ⟨_, rfl⟩
  rw [← hll] at hl ⊢
  obtain ⟨f, hf⟩ : ∃ f, q = 2 ^ 52 + f := ⟨q - 2 ^ 52, by omega⟩
  have hf2 : f < 2 ^ 52 := by omega
  have er : (1022 + l) * 2 ^ 52 + q = (1023 + l) * 2 ^ 52 + f := by rw [hf]; omega
  rw [er]
  have hw : double.signWeight = 2 ^ 63 := rfl
  have hb : double.binade = 2 ^ 52 := rfl
  have hi : double.infRung = 2047 * 2 ^ 52 := rfl
  have hr : (1023 + l) * 2 ^ 52 + f < 2 ^ 63 := by omega
  have e1 : double.word s ((1023 + l) * 2 ^ 52 + f) / double.signWeight % 2 = s.toNat := by
    rw [hw]
    cases s
    · show ((1023 + l) * 2 ^ 52 + f) / 2 ^ 63 % 2 = 0
      omega
    · show (double.signWeight + ((1023 + l) * 2 ^ 52 + f)) / 2 ^ 63 % 2 = 1
      rw [hw]; omega
  have e2 : double.word s ((1023 + l) * 2 ^ 52 + f) % double.signWeight = (1023 + l) * 2 ^ 52 + f := by
    rw [hw]
    cases s
    · show ((1023 + l) * 2 ^ 52 + f) % 2 ^ 63 = _
      omega
    · show (double.signWeight + ((1023 + l) * 2 ^ 52 + f)) % 2 ^ 63 = _
      rw [hw]; omega
  unfold Format.read
  simp only [e1, e2, hb, hi]
  rw [if_neg (by omega), if_pos (by omega)]
  have e3 : ((1023 + l) * 2 ^ 52 + f) % 2 ^ 52 = f := by omega
  have e4 : ((1023 + l) * 2 ^ 52 + f) / 2 ^ 52 = 1023 + l := by omega
  rw [e3, e4, ← hf]
  have e5 : (s.toNat == 1) = s := by cases s <;> rfl
  rw [e5]
  congr 1
  show (2 - 2 ^ 10 - 52 : Int) + ((1023 + l - 1 : Nat) : Int) = _
  omega
theorem read_zero (s : Bool) : double.read (double.word s 0) = .number s 0 (-((1074 : Nat) : Int)) := by
  cases s <;> rfl
theorem zero_k (s : Bool) : ∃ K : Nat, double.read (double.word s 0) = .number s 0 (-(K : Int)) := ⟨1074, read_zero s⟩
/-- a whole number that is written is read as it was -/
theorem write_rep {d : Datum} {n : Int} (h : Rep d n) (hn : n.natAbs < 2 ^ 53) : IsF (double.write d) n := by
  obtain ⟨s, k, rfl, hs⟩ := h
  show Rep (double.read (double.nearest s (n.natAbs * 2 ^ k) (-(k : Int)))) n
  by_cases h0 : n = 0
  · subst h0
    have e : double.nearest s (Int.natAbs 0 * 2 ^ k) (-(k : Int)) = double.word s 0 := by
      unfold Format.nearest
      rw [if_pos (by simp)]
    obtain ⟨K, hK⟩ := zero_k s
    rw [e, hK]
    exact ⟨s, K, by rw [Int.natAbs_zero, Nat.zero_mul], fun h => absurd rfl h⟩
  · rw [nearest_int s (by omega) hn, read_word s (by omega) hn]
    exact ⟨s, _, rfl, hs⟩
theorem signed_mul (s : Bool) (m k : Nat) : signed s m k = (if s then -1 else 1) * ((m : Int) * 2 ^ k) := by
  unfold signed
  cases s <;> simp [Nat.shiftLeft_eq]
theorem rep_signed {s : Bool} {n : Int} (hs : n ≠ 0 → s = decide (n < 0)) : (if s then (-1 : Int) else 1) * (n.natAbs : Int) = n := by
  by_cases h0 : n = 0
  · subst h0; simp
  · rw [hs h0]
    by_cases h : n < 0
    · simp [h]; omega
    · simp [h]; omega
theorem sum_rep {x y : Datum} {a b : Int} (hx : Rep x a) (hy : Rep y b) : ∃ d, x.sum y = some d ∧ Rep d (a + b) := by
  obtain ⟨s, i, rfl, hs⟩ := hx
  obtain ⟨t, j, rfl, ht⟩ := hy
  refine ⟨_, rfl, ?_⟩
  obtain ⟨m, hm⟩ : ∃ m : Nat, m = max i j := ⟨_, rfl⟩
  have hb : min (-(i : Int)) (-(j : Int)) = -(m : Int) := by omega
  have e1 : (-(i : Int) - -(m : Int)).toNat = m - i := by omega
  have e2 : (-(j : Int) - -(m : Int)).toNat = m - j := by omega
  have ht2 : signed s (a.natAbs * 2 ^ i) (m - i) + signed t (b.natAbs * 2 ^ j) (m - j) = (a + b) * 2 ^ m := by
    rw [signed_mul, signed_mul]
    have p1 : (((a.natAbs * 2 ^ i : Nat) : Int)) * 2 ^ (m - i) = (a.natAbs : Int) * 2 ^ m := by
      rw [show (2 : Int) ^ m = 2 ^ i * 2 ^ (m - i) by rw [← Int.pow_add]; congr 1; omega]
      simp [Int.mul_assoc]
    have p2 : (((b.natAbs * 2 ^ j : Nat) : Int)) * 2 ^ (m - j) = (b.natAbs : Int) * 2 ^ m := by
      rw [show (2 : Int) ^ m = 2 ^ j * 2 ^ (m - j) by rw [← Int.pow_add]; congr 1; omega]
      simp [Int.mul_assoc]
    rw [p1, p2, ← Int.mul_assoc, ← Int.mul_assoc, rep_signed hs, rep_signed ht, Int.add_mul]
  have hpm : (0 : Int) < 2 ^ m := Int.pow_pos (by omega)
  rw [hb, e1, e2, ht2]
  refine ⟨if (a + b) * 2 ^ m = 0 then s && t else decide ((a + b) * 2 ^ m < 0), m, ?_, ?_⟩
  · congr 1
    rw [Int.natAbs_mul, Int.natAbs_pow]; rfl
  · intro h
    rw [if_neg (by intro e; rcases Int.mul_eq_zero.1 e with h' | h' <;> omega)]
    apply decide_eq_decide.2
    constructor
    · intro h1
      rcases Int.lt_or_le (a + b) 0 with h2 | h2
      · exact h2
      · have := Int.mul_nonneg h2 (Int.le_of_lt hpm); omega
    · intro h1
      exact Int.mul_neg_of_neg_of_pos h1 hpm
theorem opp_rep {x : Datum} {a : Int} (hx : Rep x a) : Rep x.opposite (-a) := by
  obtain ⟨s, i, rfl, hs⟩ := hx
  refine ⟨!s, i, by simp [Datum.opposite], ?_⟩
  intro h
  rw [hs (by omega)]
  by_cases h1 : a < 0
  · simp [h1]; omega
  · simp [h1]; omega
theorem product_rep {x y : Datum} {a b : Int} (hx : Rep x a) (hy : Rep y b) : ∃ d, x.product y = some d ∧ Rep d (a * b) := by
  obtain ⟨s, i, rfl, hs⟩ := hx
  obtain ⟨t, j, rfl, ht⟩ := hy
  refine ⟨_, rfl, s ^^ t, i + j, ?_, ?_⟩
  · congr 1
    · rw [Int.natAbs_mul, Nat.pow_add, Nat.mul_mul_mul_comm]
    · omega
  · intro h
    have ha : a ≠ 0 := fun e => h (by rw [e, Int.zero_mul])
    have hb : b ≠ 0 := fun e => h (by rw [e, Int.mul_zero])
    rw [hs ha, ht hb]
    by_cases h1 : a < 0
    · by_cases h2 : b < 0
      · have : 0 < a * b := Int.mul_pos_of_neg_of_neg h1 h2
        simp [h1, h2]; omega
      · have : a * b < 0 := Int.mul_neg_of_neg_of_pos h1 (by omega)
        simp [h1, h2, this]
    · by_cases h2 : b < 0
      · have : a * b < 0 := Int.mul_neg_of_pos_of_neg (by omega) h2
        simp [h1, h2, this]
      · have : 0 < a * b := Int.mul_pos (by omega) (by omega)
        simp [h1, h2]; omega
theorem order_rep {x y : Datum} {a b : Int} (hx : Rep x a) (hy : Rep y b) : x.order y = some (compare a b) := by
  obtain ⟨s, i, rfl, hs⟩ := hx
  obtain ⟨t, j, rfl, ht⟩ := hy
  obtain ⟨m, hm⟩ : ∃ m : Nat, m = max i j := ⟨_, rfl⟩
  have hb : min (-(i : Int)) (-(j : Int)) = -(m : Int) := by omega
  have e1 : (-(i : Int) - -(m : Int)).toNat = m - i := by omega
  have e2 : (-(j : Int) - -(m : Int)).toNat = m - j := by omega
  have one : ∀ (s : Bool) (a : Int) (i : Nat), i ≤ m → (a ≠ 0 → s = decide (a < 0)) → signed s (a.natAbs * 2 ^ i) (m - i) = a * 2 ^ m := by
    intro s a i him hs
    rw [signed_mul]
    have p1 : (((a.natAbs * 2 ^ i : Nat) : Int)) * 2 ^ (m - i) = (a.natAbs : Int) * 2 ^ m := by
      rw [show (2 : Int) ^ m = 2 ^ i * 2 ^ (m - i) by rw [← Int.pow_add]; congr 1; omega]
      simp [Int.mul_assoc]
    rw [p1, ← Int.mul_assoc, rep_signed hs]
  have hpm : (0 : Int) < 2 ^ m := Int.pow_pos (by omega)
  simp only [Datum.order, hb, e1, e2, one s a i (by omega) hs, one t b j (by omega) ht]
  congr 1
  rcases Int.lt_trichotomy a b with h | h | h
  · rw [Int.compare_eq_lt.2 h, Int.compare_eq_lt.2 (Int.mul_lt_mul_of_pos_right h hpm)]
  · subst h; rw [Int.compare_eq_eq.2 rfl, Int.compare_eq_eq.2 rfl]
  · rw [Int.compare_eq_gt.2 h, Int.compare_eq_gt.2 (Int.mul_lt_mul_of_pos_right h hpm)]
theorem isF_add {x y : Nat} {a b : Int} (hx : IsF x a) (hy : IsF y b) (h : (a + b).natAbs < 2 ^ 53) : ∃ r, floatBits .add .f64 x y = some r ∧ IsF r (a + b) := by
  obtain ⟨d, h1, h2⟩ := sum_rep hx hy
  refine ⟨double.write d, ?_, write_rep h2 h⟩
  show ((double.read x).sum (double.read y)).map double.write = _
  rw [h1]; rfl
theorem isF_sub {x y : Nat} {a b : Int} (hx : IsF x a) (hy : IsF y b) (h : (a - b).natAbs < 2 ^ 53) : ∃ r, floatBits .sub .f64 x y = some r ∧ IsF r (a - b) := by
  obtain ⟨d, h1, h2⟩ := sum_rep hx (opp_rep hy)
  refine ⟨double.write d, ?_, write_rep (by rw [Int.sub_eq_add_neg]; exact h2) h⟩
  show ((double.read x).sum (double.read y).opposite).map double.write = _
  rw [h1]; rfl
theorem isF_mul {x y : Nat} {a b : Int} (hx : IsF x a) (hy : IsF y b) (h : (a * b).natAbs < 2 ^ 53) : ∃ r, floatBits .mul .f64 x y = some r ∧ IsF r (a * b) := by
  obtain ⟨d, h1, h2⟩ := product_rep hx hy
  refine ⟨double.write d, ?_, write_rep h2 h⟩
  show ((double.read x).product (double.read y)).map double.write = _
  rw [h1]; rfl
theorem isF_int (n : Int) (h : n.natAbs < 2 ^ 53) : IsF (FloatKind.f64.nearest n) n := by
  refine write_rep (d := .number (n < 0) n.natAbs 0) ?_ h
  exact ⟨decide (n < 0), 0, by simp, fun _ => rfl⟩
theorem isF_zero : IsF 0 0 := by
  obtain ⟨K, hK⟩ := zero_k false
  have e : double.word false 0 = 0 := rfl
  rw [e] at hK
  unfold IsF
  rw [hK]
  exact ⟨false, K, by rw [Int.natAbs_zero, Nat.zero_mul], fun h => absurd rfl h⟩
theorem isF_one : IsF 4607182418800017408 1 := ⟨false, 52, by decide, fun _ => rfl⟩
/-- a complex number times i -/
theorem cmul_i {a b : Nat} {X Y : Int} (ha : IsF a X) (hb : IsF b Y) (hX : X.natAbs < 2 ^ 53) (hY : Y.natAbs < 2 ^ 53) :
    ∃ re im, cMulBits a b 0 4607182418800017408 = some (re, im) ∧ IsF re (-Y) ∧ IsF im X := by
  obtain ⟨ac, h1, k1⟩ := isF_mul ha isF_zero (by rw [Int.mul_zero]; decide)
  obtain ⟨bd, h2, k2⟩ := isF_mul hb isF_one (by rw [Int.mul_one]; exact hY)
  obtain ⟨re, h3, k3⟩ := isF_sub k1 k2 (by rw [Int.mul_zero, Int.mul_one]; omega)
  obtain ⟨ad, h4, k4⟩ := isF_mul ha isF_one (by rw [Int.mul_one]; exact hX)
  obtain ⟨bc, h5, k5⟩ := isF_mul hb isF_zero (by rw [Int.mul_zero]; decide)
  obtain ⟨im, h6, k6⟩ := isF_add k4 k5 (by rw [Int.mul_zero, Int.mul_one]; omega)
  refine ⟨re, im, ?_, ?_, ?_⟩
  · simp [cMulBits, h1, h2, h3, h4, h5, h6]
  · have e : X * 0 - Y * 1 = -Y := by omega
    rw [← e]; exact k3
  · have e : X * 1 + Y * 0 = X := by omega
    rw [← e]; exact k6
theorem csum {op : BinOp} (hop : op = .add ∨ op = .sub) {a b c d : Nat} {X Y U V : Int} (ha : IsF a X) (hb : IsF b Y) (hc : IsF c U) (hd : IsF d V)
    (hX : X.natAbs < 2 ^ 52) (hY : Y.natAbs < 2 ^ 52) (hU : U.natAbs < 2 ^ 52) (hV : V.natAbs < 2 ^ 52) :
    ∃ re im, cSumBits op .f64 a b c d = some (re, im) ∧ IsF re (if op = .add then X + U else X - U) ∧ IsF im (if op = .add then Y + V else Y - V) := by
  rcases hop with rfl | rfl
  · obtain ⟨re, h1, k1⟩ := isF_add ha hc (by omega)
    obtain ⟨im, h2, k2⟩ := isF_add hb hd (by omega)
    exact ⟨re, im, by simp [cSumBits, h1, h2], by simpa using k1, by simpa using k2⟩
  · obtain ⟨re, h1, k1⟩ := isF_sub ha hc (by omega)
    obtain ⟨im, h2, k2⟩ := isF_sub hb hd (by omega)
    exact ⟨re, im, by simp [cSumBits, h1, h2], by simpa using k1, by simpa using k2⟩
theorem isF_order {x y : Nat} {a b : Int} (hx : IsF x a) (hy : IsF y b) : double.order x y = some (compare a b) := order_rep hx hy
theorem order_eq {x y : Nat} {a b : Int} (hx : IsF x a) (hy : IsF y b) : (FloatKind.f64.format.order x y == some .eq) = decide (a = b) := by
  have h : FloatKind.f64.format.order x y = some (compare a b) := isF_order hx hy
  rw [h]
  by_cases e : a = b
  · subst e
    rw [Int.compare_eq_eq.2 rfl, decide_eq_true rfl]; rfl
  · rw [decide_eq_false e]
    rcases Int.lt_or_gt_of_ne e with h1 | h1
    · rw [Int.compare_eq_lt.2 h1]; rfl
    · rw [Int.compare_eq_gt.2 h1]; rfl
end Go.Proofs.Ytbjfacfphgnhpaa.FloatM
