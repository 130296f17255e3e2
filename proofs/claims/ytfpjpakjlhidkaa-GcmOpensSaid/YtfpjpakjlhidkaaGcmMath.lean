/- Plain: products of blocks of 128 bits, the highest bit first: they go on and part. -/
import Derived.WalkKit
namespace Go.Proofs.Ytfpjpakjlhidkaa
namespace GcmM
def EE : Nat := 299076299051606071403356588563077529600
/-- times X -/
def xt (v : Nat) : Nat := v / 2 ^^^ (v % 2) * EE
def xtn : Nat → Nat → Nat
  | 0, v => v
  | n + 1, v => xt (xtn n v)
def bt (a i : Nat) : Bool := a.testBit (127 - i)
/-- the product, by its first steps -/
def gmK (a b : Nat) : Nat → Nat
  | 0 => 0
  | n + 1 => gmK a b n ^^^ (if bt a n then xtn n b else 0)
def gm (a b : Nat) : Nat := gmK a b 128
def ee (n : Nat) : Nat := 2 ^ (127 - n)
def P128 : Nat := 340282366920938463463374607431768211456
theorem p128 : P128 = 2 ^ 128 := by decide
theorem xor_self (a : Nat) : a ^^^ a = 0 := Nat.xor_self a
theorem xor4 (a b c d : Nat) : (a ^^^ b) ^^^ (c ^^^ d) = (a ^^^ c) ^^^ (b ^^^ d) := by
  rw [Nat.xor_assoc, ← Nat.xor_assoc b, Nat.xor_comm b c, Nat.xor_assoc c, ← Nat.xor_assoc]
theorem par_xor (a b : Nat) : ((a ^^^ b) % 2) * EE = (a % 2) * EE ^^^ (b % 2) * EE := by
  have h : (a ^^^ b) % 2 = (a % 2 ^^^ b % 2) := by simpa using Nat.xor_mod_two_pow (a := a) (b := b) (n := 1)
  rw [h]
  rcases Nat.mod_two_eq_zero_or_one a with h1 | h1 <;> rcases Nat.mod_two_eq_zero_or_one b with h2 | h2 <;> rw [h1, h2] <;> simp
theorem xt_xor (a b : Nat) : xt (a ^^^ b) = xt a ^^^ xt b := by
  unfold xt
  rw [par_xor, Nat.xor_div_two, xor4]
theorem xt_zero : xt 0 = 0 := by decide
theorem xtn_xor (n a b : Nat) : xtn n (a ^^^ b) = xtn n a ^^^ xtn n b := by
  induction n with
  | zero => rfl
  | succ n ih => rw [xtn, ih, xt_xor]; rfl
theorem xtn_zero (n : Nat) : xtn n 0 = 0 := by
  induction n with
  | zero => rfl
  | succ n ih => rw [xtn, ih, xt_zero]
theorem xtn_add (m n v : Nat) : xtn (m + n) v = xtn m (xtn n v) := by
  induction m with
  | zero => rw [Nat.zero_add]; rfl
  | succ m ih => rw [Nat.succ_add, xtn, ih]; rfl
theorem xtn_comm (m n v : Nat) : xtn m (xtn n v) = xtn n (xtn m v) := by
  rw [← xtn_add, ← xtn_add, Nat.add_comm]
theorem xt_lt {v : Nat} (h : v < P128) : xt v < P128 := by
  unfold xt
  rw [p128] at *
  apply Nat.xor_lt_two_pow
  · omega
  · rcases Nat.mod_two_eq_zero_or_one v with h1 | h1 <;> rw [h1] <;> decide
theorem xtn_lt {v : Nat} (h : v < P128) (n : Nat) : xtn n v < P128 := by
  induction n with
  | zero => exact h
  | succ n ih => exact xt_lt ih
theorem bt_xor (a b i : Nat) : bt (a ^^^ b) i = (bt a i ^^ bt b i) := by unfold bt; rw [Nat.testBit_xor]
theorem gmK_xorA (a a' b n : Nat) : gmK (a ^^^ a') b n = gmK a b n ^^^ gmK a' b n := by
  induction n with
  | zero => simp [gmK]
  | succ n ih =>
    rw [gmK, gmK, gmK, ih, bt_xor, xor4]
    congr 1
    cases bt a n <;> cases bt a' n <;> simp
theorem gmK_xorB (a b b' n : Nat) : gmK a (b ^^^ b') n = gmK a b n ^^^ gmK a b' n := by
  induction n with
  | zero => simp [gmK]
  | succ n ih =>
    rw [gmK, gmK, gmK, ih, xtn_xor, xor4]
    congr 1
    cases bt a n <;> simp
theorem gm_xorA (a a' b : Nat) : gm (a ^^^ a') b = gm a b ^^^ gm a' b := gmK_xorA _ _ _ _
theorem gm_xorB (a b b' : Nat) : gm a (b ^^^ b') = gm a b ^^^ gm a b' := gmK_xorB _ _ _ _
theorem gmK_zero (b n : Nat) : gmK 0 b n = 0 := by
  induction n with
  | zero => rfl
  | succ n ih => rw [gmK, ih]; simp [bt]
theorem gm_zero (b : Nat) : gm 0 b = 0 := gmK_zero _ _
theorem gmK_zeroB (a n : Nat) : gmK a 0 n = 0 := by
  induction n with
  | zero => rfl
  | succ n ih => rw [gmK, ih, xtn_zero]; simp
theorem gmK_xt (a b n : Nat) : gmK a (xt b) n = xt (gmK a b n) := by
  induction n with
  | zero => exact xt_zero.symm
  | succ n ih =>
    rw [gmK, gmK, ih, xt_xor]
    congr 1
    have : xtn n (xt b) = xt (xtn n b) := xtn_comm n 1 b
    rw [this]
    split
    · rfl
    · exact xt_zero.symm
theorem gm_xtn (a b k : Nat) : gm a (xtn k b) = xtn k (gm a b) := by
  induction k with
  | zero => rfl
  | succ k ih => rw [xtn, xtn, ← ih]; exact gmK_xt _ _ _
theorem gm_lt {b : Nat} (h : b < P128) (a : Nat) : gm a b < P128 := by
  have : ∀ n, gmK a b n < P128 := by
    intro n
    induction n with
    | zero => rw [gmK]; decide
    | succ n ih =>
      rw [gmK, p128]
      rw [p128] at ih
      apply Nat.xor_lt_two_pow ih
      split
      · have := xtn_lt h n; rwa [p128] at this
      · decide
  exact this 128
-- units
theorem ee_lt (n : Nat) : ee n < P128 := by
  unfold ee; rw [p128]; exact Nat.pow_lt_pow_right (by omega) (by omega)
theorem bt_ee {n i : Nat} (hn : n < 128) (hi : i < 128) : bt (ee n) i = decide (i = n) := by
  unfold bt ee
  rw [Nat.testBit_two_pow]
  by_cases h : i = n
  · subst h; simp
  · rw [decide_eq_false h, decide_eq_false]; omega
theorem gm_ee {n : Nat} (hn : n < 128) (b : Nat) : gm (ee n) b = xtn n b := by
  have : ∀ m, m ≤ 128 → gmK (ee n) b m = if n < m then xtn n b else 0 := by
    intro m
    induction m with
    | zero => intro _; rfl
    | succ m ih =>
      intro hm
      rw [gmK, ih (by omega), bt_ee hn (by omega)]
      by_cases h1 : n < m
      · simp [h1, show n < m + 1 by omega, show ¬ m = n by omega]
      · by_cases h2 : m = n
        · subst h2; simp
        · simp [h1, h2, show ¬ n < m + 1 by omega]
  have := this 128 (by omega)
  rwa [if_pos hn] at this
theorem xt_ee {n : Nat} (hn : n < 127) : xt (ee n) = ee (n + 1) := by
  unfold xt ee
  obtain ⟨k, hk⟩ : ∃ k, 127 - n = k + 1 := ⟨126 - n, by omega⟩
  rw [hk, show 127 - (n + 1) = k by omega, Nat.pow_succ]
  rw [Nat.mul_div_cancel _ (by omega), Nat.mul_mod_left]; simp
theorem xtn_ee0 {n : Nat} (hn : n < 128) : xtn n (ee 0) = ee n := by
  induction n with
  | zero => rfl
  | succ n ih => rw [xtn, ih (by omega), xt_ee (by omega)]
theorem xt_last : xt (ee 127) = ee 0 ^^^ ee 1 ^^^ ee 2 ^^^ ee 7 := by decide
/-- What holds of units and of sums holds of all. -/
theorem all_bits {P : Nat → Prop} (h0 : P 0) (hu : ∀ n, n < 128 → P (ee n)) (hx : ∀ a b, P a → P b → P (a ^^^ b)) : ∀ a, a < P128 → P a := by
  have : ∀ m, m ≤ 128 → ∀ a, a < 2 ^ m → P a := by
    intro m
    induction m with
    | zero => intro _ a ha; have : a = 0 := by simpa using ha
              subst this; exact h0
    | succ m ih =>
      intro hm a ha
      by_cases hlt : a < 2 ^ m
      · exact ih (by omega) a hlt
      · have hb := Nat.testBit_of_two_pow_le_and_two_pow_add_one_gt (n := a) (i := m) (by omega) ha
        have hr : a ^^^ 2 ^ m < 2 ^ m := by
          apply Nat.lt_pow_two_of_testBit
          intro i hi
          rw [Nat.testBit_xor, Nat.testBit_two_pow]
          by_cases him : m = i
          · subst him; rw [hb]; simp
          · rw [Nat.testBit_lt_two_pow (Nat.lt_of_lt_of_le ha (Nat.pow_le_pow_right (by omega) (by omega))), decide_eq_false him]; rfl
        have e : a = (a ^^^ 2 ^ m) ^^^ 2 ^ m := by rw [Nat.xor_assoc, Nat.xor_self, Nat.xor_zero]
        rw [e]
        refine hx _ _ (ih (by omega) _ hr) ?_
        have := hu (127 - m) (by omega)
        unfold ee at this
        rwa [show 127 - (127 - m) = m by omega] at this
  intro a ha
  exact this 128 (by omega) a (by rw [← p128]; exact ha)
/-- a block is the sum of its units -/
theorem gm_one {a : Nat} (h : a < P128) : gm a (ee 0) = a := by
  refine all_bits (P := fun a => gm a (ee 0) = a) (gm_zero _) (fun n hn => ?_) (fun a b ha hb => ?_) a h
  · show gm (ee n) (ee 0) = ee n
    rw [gm_ee hn, xtn_ee0 hn]
  · show gm (a ^^^ b) (ee 0) = a ^^^ b
    rw [gm_xorA, ha, hb]
theorem x128 {b : Nat} (h : b < P128) : xtn 128 b = b ^^^ xtn 1 b ^^^ xtn 2 b ^^^ xtn 7 b := by
  have e0 : xtn 128 (ee 0) = ee 0 ^^^ xtn 1 (ee 0) ^^^ xtn 2 (ee 0) ^^^ xtn 7 (ee 0) := by
    rw [xtn_ee0 (n := 1) (by omega), xtn_ee0 (n := 2) (by omega), xtn_ee0 (n := 7) (by omega), ← xt_last, ← xtn_ee0 (n := 127) (by omega)]
    rfl
  refine all_bits (P := fun b => xtn 128 b = b ^^^ xtn 1 b ^^^ xtn 2 b ^^^ xtn 7 b) ?_ (fun n hn => ?_) (fun a b ha hb => ?_) b h
  · show xtn 128 0 = 0 ^^^ xtn 1 0 ^^^ xtn 2 0 ^^^ xtn 7 0
    rw [xtn_zero, xtn_zero, xtn_zero, xtn_zero]; rfl
  · show xtn 128 (ee n) = ee n ^^^ xtn 1 (ee n) ^^^ xtn 2 (ee n) ^^^ xtn 7 (ee n)
    rw [← xtn_ee0 hn, xtn_comm 128 n, e0, xtn_xor, xtn_xor, xtn_xor, xtn_comm n 1, xtn_comm n 2, xtn_comm n 7]
  · show xtn 128 (a ^^^ b) = (a ^^^ b) ^^^ xtn 1 (a ^^^ b) ^^^ xtn 2 (a ^^^ b) ^^^ xtn 7 (a ^^^ b)
    rw [xtn_xor, xtn_xor, xtn_xor, xtn_xor, ha, hb]
    rw [xor4 _ (xtn 7 a), xor4 _ (xtn 2 a), xor4 a]
theorem gm_xtA {a : Nat} (h : a < P128) {b : Nat} (hb : b < P128) : gm (xt a) b = xt (gm a b) := by
  refine all_bits (P := fun a => gm (xt a) b = xt (gm a b)) ?_ (fun n hn => ?_) (fun a a' ha hb => ?_) a h
  · show gm (xt 0) b = xt (gm 0 b)
    rw [xt_zero, gm_zero, xt_zero]
  · show gm (xt (ee n)) b = xt (gm (ee n) b)
    rw [gm_ee hn]
    by_cases h127 : n = 127
    · subst h127
      rw [xt_last, gm_xorA, gm_xorA, gm_xorA, gm_ee (by omega), gm_ee (by omega), gm_ee (by omega), gm_ee (by omega)]
      exact (x128 hb).symm
    · rw [xt_ee (by omega), gm_ee (by omega)]; rfl
  · show gm (xt (a ^^^ a')) b = xt (gm (a ^^^ a') b)
    rw [xt_xor, gm_xorA, gm_xorA, xt_xor, ha, hb]
theorem gm_xtnA {a : Nat} (h : a < P128) {b : Nat} (hb : b < P128) (n : Nat) : gm (xtn n a) b = xtn n (gm a b) := by
  induction n with
  | zero => rfl
  | succ n ih => rw [xtn, gm_xtA (xtn_lt h n) hb, ih]; rfl
/-- Products go on. -/
theorem gm_assoc {a b c : Nat} (ha : a < P128) (hb : b < P128) (hc : c < P128) : gm (gm a b) c = gm a (gm b c) := by
  refine all_bits (P := fun a => gm (gm a b) c = gm a (gm b c)) ?_ (fun n hn => ?_) (fun a a' h1 h2 => ?_) a ha
  · show gm (gm 0 b) c = gm 0 (gm b c)
    rw [gm_zero, gm_zero, gm_zero]
  · show gm (gm (ee n) b) c = gm (ee n) (gm b c)
    rw [gm_ee hn, gm_ee hn, gm_xtnA hb hc]
  · show gm (gm (a ^^^ a') b) c = gm (a ^^^ a') (gm b c)
    rw [gm_xorA, gm_xorA, gm_xorA, h1, h2]
-- coefficients
/-- what coefficients stand for -/
def phi (p : Nat → Bool) : Nat → Nat
  | 0 => 0
  | n + 1 => phi p n ^^^ (if p n then xtn n (ee 0) else 0)
def flip (p : Nat → Bool) (j : Nat) : Nat → Bool := fun i => if i = j then !(p i) else p i
theorem phi_flip (p : Nat → Bool) {j n : Nat} : phi (flip p j) n = phi p n ^^^ (if j < n then xtn j (ee 0) else 0) := by
  induction n with
  | zero => simp [phi]
  | succ n ih =>
    rw [phi, phi, ih]
    by_cases h1 : n = j
    · subst h1
      have e : flip p n n = !(p n) := by unfold flip; rw [if_pos rfl]
      rw [e]
      cases p n
      · simp
      · simp [Nat.xor_assoc]
    · have e : flip p j n = p n := by unfold flip; rw [if_neg h1]
      rw [e]
      by_cases h2 : j < n
      · simp only [h2, show j < n + 1 by omega, if_true]
        rw [Nat.xor_assoc, Nat.xor_assoc, Nat.xor_comm (xtn j (ee 0))]
      · simp [h2, show ¬ j < n + 1 by omega]
theorem phi_false {p : Nat → Bool} {m n : Nat} (hmn : m ≤ n) (h : ∀ i, m ≤ i → i < n → p i = false) : phi p n = phi p m := by
  induction n with
  | zero => have : m = 0 := by omega
            subst this; rfl
  | succ n ih =>
    by_cases hm : m = n + 1
    · subst hm; rfl
    · rw [phi, ih (by omega) (fun i h1 h2 => h i h1 (by omega)), h n (by omega) (by omega)]; simp
/-- a block's part -/
def cut (b K : Nat) : Nat := gmK b (ee 0) K
theorem cut_full {b : Nat} (hb : b < P128) : cut b 128 = b := gm_one hb
theorem cut_step (b K : Nat) (hK : K < 128) : cut b (K + 1) = cut b K ^^^ (if bt b K then ee K else 0) := by
  unfold cut; rw [gmK, xtn_ee0 hK]
theorem xt_cut (b i K : Nat) (hK : K < 128) : xtn i (cut b (K + 1)) = xtn i (cut b K) ^^^ (if bt b K then xtn (i + K) (ee 0) else 0) := by
  rw [cut_step b K hK, xtn_xor]
  congr 1
  split
  · rw [← xtn_ee0 hK, ← xtn_add]
  · exact xtn_zero i
/-- taking off what stands above -/
theorem red_step {p : Nat → Bool} {n : Nat} (h1 : 128 ≤ n) (h2 : n < 255) :
    phi (flip (flip (flip (flip (flip p n) (n - 128)) (n - 127)) (n - 126)) (n - 121)) 255 = phi p 255 := by
  rw [phi_flip, phi_flip, phi_flip, phi_flip, phi_flip, if_pos (by omega), if_pos (by omega), if_pos (by omega), if_pos (by omega), if_pos (by omega)]
  have h := x128 (xtn_lt (ee_lt 0) (n - 128))
  rw [← xtn_add, ← xtn_add, ← xtn_add, ← xtn_add, show 128 + (n - 128) = n by omega, show 1 + (n - 128) = n - 127 by omega, show 2 + (n - 128) = n - 126 by omega, show 7 + (n - 128) = n - 121 by omega] at h
  rw [h]
  simp only [Nat.xor_assoc]
  generalize xtn (n - 128) (ee 0) = u
  generalize xtn (n - 127) (ee 0) = v
  generalize xtn (n - 126) (ee 0) = x
  generalize xtn (n - 121) (ee 0) = y
  have k : ∀ a b c d f : Nat, a ^^^ (b ^^^ (c ^^^ (d ^^^ (f ^^^ (b ^^^ (c ^^^ (d ^^^ f))))))) = a := by
    intro a b c d f
    have e : b ^^^ (c ^^^ (d ^^^ (f ^^^ (b ^^^ (c ^^^ (d ^^^ f)))))) = 0 := by
      have e1 : ∀ s t : Nat, s ^^^ t = t ^^^ s := Nat.xor_comm
      have e2 : b ^^^ (c ^^^ (d ^^^ (f ^^^ (b ^^^ (c ^^^ (d ^^^ f)))))) = (b ^^^ (c ^^^ (d ^^^ f))) ^^^ (b ^^^ (c ^^^ (d ^^^ f))) := by
        simp only [Nat.xor_assoc]
      rw [e2, Nat.xor_self]
    rw [e, Nat.xor_zero]
  exact k _ _ _ _ _
end GcmM
end Go.Proofs.Ytfpjpakjlhidkaa
