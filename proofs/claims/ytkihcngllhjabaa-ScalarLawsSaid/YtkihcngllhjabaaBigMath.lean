/- Plain: numbers as digits of base 2^15, the lowest first. -/
import Derived.WalkKit
namespace Go.Proofs.Ytkihcngllhjabaa
namespace BigM
/-- The digits of a number, without noughts at the end. -/
def big (n : Nat) : List Nat := if n = 0 then [] else n % 32768 :: big (n / 32768)
termination_by n
decreasing_by omega
/-- What digits stand for. -/
def bval : List Nat → Nat
  | [] => 0
  | d :: L => d + 32768 * bval L
def Dig (L : List Nat) : Prop := ∀ d ∈ L, d < 32768
/-- the digit at a place -/
def dg (n i : Nat) : Nat := n / 32768 ^ i % 32768
theorem dg_lt (n i : Nat) : dg n i < 32768 := Nat.mod_lt _ (by omega)
theorem big_zero : big 0 = [] := by rw [big]; simp
theorem big_pos {n : Nat} (h : n ≠ 0) : big n = n % 32768 :: big (n / 32768) := by rw [big, if_neg h]
theorem bval_big (n : Nat) : bval (big n) = n := by
  induction n using Nat.strongRecOn with
  | _ n ih =>
    by_cases h : n = 0
    · subst h; rw [big_zero]; rfl
    · rw [big_pos h, bval, ih (n / 32768) (by omega)]; omega
theorem Dig.nil : Dig [] := by intro d h; cases h
theorem Dig.cons {d : Nat} {L : List Nat} (h : d < 32768) (hL : Dig L) : Dig (d :: L) := by
  intro x hx
  rcases List.mem_cons.1 hx with rfl | hx
  · exact h
  · exact hL x hx
theorem Dig.app {A B : List Nat} (hA : Dig A) (hB : Dig B) : Dig (A ++ B) := by
  intro x hx
  rcases List.mem_append.1 hx with hx | hx
  · exact hA x hx
  · exact hB x hx
theorem Dig.snoc {d : Nat} {L : List Nat} (h : d < 32768) (hL : Dig L) : Dig (L ++ [d]) := hL.app (Dig.nil.cons h)
theorem Dig.take {L : List Nat} (h : Dig L) (k : Nat) : Dig (L.take k) := fun x hx => h x (List.mem_of_mem_take hx)
theorem Dig.set {L : List Nat} (h : Dig L) (i : Nat) {d : Nat} (hd : d < 32768) : Dig (L.set i d) := by
  intro x hx
  rcases List.mem_or_eq_of_mem_set hx with hx | rfl
  · exact h x hx
  · exact hd
theorem Dig.zeros (n : Nat) : Dig (List.replicate n 0) := by
  intro x hx
  obtain ⟨_, rfl⟩ := List.mem_replicate.1 hx
  omega
theorem big_dig (n : Nat) : Dig (big n) := by
  induction n using Nat.strongRecOn with
  | _ n ih =>
    by_cases h : n = 0
    · subst h; rw [big_zero]; exact Dig.nil
    · rw [big_pos h]; exact Dig.cons (Nat.mod_lt _ (by omega)) (ih (n / 32768) (by omega))
theorem bval_append (A B : List Nat) : bval (A ++ B) = bval A + 32768 ^ A.length * bval B := by
  induction A with
  | nil => simp [bval]
  | cons d A ih => rw [List.cons_append, bval, bval, ih, List.length_cons, Nat.pow_succ, Nat.mul_add, Nat.mul_comm (32768 ^ A.length) 32768, Nat.mul_assoc]; omega
theorem bval_lt {L : List Nat} (h : Dig L) : bval L < 32768 ^ L.length := by
  induction L with
  | nil => simp [bval]
  | cons d L ih =>
    have h1 := h d (List.mem_cons_self ..)
    have h2 := ih fun x hx => h x (List.mem_cons_of_mem _ hx)
    rw [bval, List.length_cons, Nat.pow_succ]; omega
theorem bval_zeros (n : Nat) : bval (List.replicate n 0) = 0 := by
  induction n with
  | zero => rfl
  | succ n ih => rw [List.replicate_succ, bval, ih]
theorem bval_snoc (L : List Nat) (d : Nat) : bval (L ++ [d]) = bval L + 32768 ^ L.length * d := by
  rw [bval_append]; simp [bval]
/-- Digits of which the last is no nought are those of their number. -/
theorem canon (L : List Nat) (d : Nat) (h : Dig (L ++ [d])) (hd : d ≠ 0) : big (bval (L ++ [d])) = L ++ [d] := by
  induction L with
  | nil =>
    have : d < 32768 := h d (by simp)
    have e : bval ([] ++ [d]) = d := by simp [bval]
    rw [e, big_pos hd]
    have : d / 32768 = 0 := by omega
    rw [this, big_zero]
    simp only [List.nil_append]
    congr 1; omega
  | cons x L ih =>
    have hx : x < 32768 := h x (by simp)
    have hL : Dig (L ++ [d]) := fun y hy => h y (List.mem_cons_of_mem _ hy)
    have hp : bval (L ++ [d]) ≠ 0 := by
      rw [bval_snoc]
      have : 0 < 32768 ^ L.length * d := Nat.mul_pos (Nat.pow_pos (by omega)) (by omega)
      omega
    have e : bval (x :: L ++ [d]) = x + 32768 * bval (L ++ [d]) := rfl
    rw [e, big_pos (by omega)]
    have e1 : (x + 32768 * bval (L ++ [d])) % 32768 = x := by omega
    have e2 : (x + 32768 * bval (L ++ [d])) / 32768 = bval (L ++ [d]) := by omega
    rw [e1, e2, ih hL]; rfl
theorem big_lt (n : Nat) : n < 32768 ^ (big n).length := by
  have := bval_lt (big_dig n)
  rwa [bval_big] at this
theorem big_len_le {n k : Nat} (h : n < 32768 ^ k) : (big n).length ≤ k := by
  induction k generalizing n with
  | zero => have : n = 0 := by simpa using h
            subst this; rw [big_zero]; simp
  | succ k ih =>
    by_cases h0 : n = 0
    · subst h0; rw [big_zero]; simp
    · rw [big_pos h0, List.length_cons]
      have := ih (n := n / 32768) (by rw [Nat.pow_succ] at h; omega)
      omega
theorem big_get (n i : Nat) (h : i < (big n).length) : (big n)[i]? = some (dg n i) := by
  induction i generalizing n with
  | zero =>
    by_cases h0 : n = 0
    · subst h0; rw [big_zero] at h; simp at h
    · rw [big_pos h0]; simp [dg]
  | succ i ih =>
    by_cases h0 : n = 0
    · subst h0; rw [big_zero] at h; simp at h
    · rw [big_pos h0, List.length_cons] at h
      rw [big_pos h0, List.getElem?_cons_succ, ih _ (by omega)]
      simp only [dg]
      rw [Nat.div_div_eq_div_mul, Nat.pow_succ, Nat.mul_comm 32768]
theorem dg_out {n i : Nat} (h : (big n).length ≤ i) : dg n i = 0 := by
  have h1 := big_lt n
  have h2 : 32768 ^ (big n).length ≤ 32768 ^ i := Nat.pow_le_pow_right (by omega) h
  unfold dg
  rw [Nat.div_eq_of_lt (by omega)]
theorem div_out {n i : Nat} (h : (big n).length ≤ i) : n / 32768 ^ i = 0 := by
  have h1 := big_lt n
  have h2 : 32768 ^ (big n).length ≤ 32768 ^ i := Nat.pow_le_pow_right (by omega) h
  exact Nat.div_eq_of_lt (by omega)
theorem mod_out {n i : Nat} (h : (big n).length ≤ i) : n % 32768 ^ i = n := by
  have h1 := big_lt n
  have h2 : 32768 ^ (big n).length ≤ 32768 ^ i := Nat.pow_le_pow_right (by omega) h
  exact Nat.mod_eq_of_lt (by omega)
theorem div_step (n i : Nat) : n / 32768 ^ i = n / 32768 ^ (i + 1) * 32768 + dg n i := by
  unfold dg
  rw [Nat.pow_succ, ← Nat.div_div_eq_div_mul]; omega
theorem mod_step (n i : Nat) : n % 32768 ^ (i + 1) = n % 32768 ^ i + 32768 ^ i * dg n i := by
  unfold dg
  exact Nat.mod_pow_succ
theorem pow_step (i : Nat) : 32768 ^ (i + 1) = 32768 ^ i * 32768 := by rw [Nat.pow_succ]
/-- the length says the size -/
theorem big_top {n : Nat} (h : n ≠ 0) : 32768 ^ ((big n).length - 1) ≤ n := by
  rcases Nat.lt_or_ge n (32768 ^ ((big n).length - 1)) with h1 | h1
  · have := big_len_le h1
    have : (big n).length ≠ 0 := by rw [big_pos h]; simp
    omega
  · exact h1
theorem lt_of_len {a b : Nat} (h : (big a).length < (big b).length) : a < b := by
  have hb : b ≠ 0 := by rintro rfl; rw [big_zero] at h; simp at h
  have h1 := big_top hb
  have h2 := big_lt a
  have h3 : 32768 ^ (big a).length ≤ 32768 ^ ((big b).length - 1) := Nat.pow_le_pow_right (by omega) (by omega)
  omega
theorem lt_of_dg {a b i : Nat} (h : a / 32768 ^ (i + 1) = b / 32768 ^ (i + 1)) (hd : dg a i < dg b i) : a < b := by
  have h1 := div_step a i
  have h2 := div_step b i
  rw [h] at h1
  have h3 : a / 32768 ^ i < b / 32768 ^ i := by omega
  rcases Nat.lt_or_ge a b with h4 | h4
  · exact h4
  · have := Nat.div_le_div_right (c := 32768 ^ i) h4; omega
theorem eq_of_dg {a b i : Nat} (h : a / 32768 ^ (i + 1) = b / 32768 ^ (i + 1)) (hd : dg a i = dg b i) : a / 32768 ^ i = b / 32768 ^ i := by
  rw [div_step a i, div_step b i, h, hd]
theorem bval_set {L : List Nat} {i x : Nat} (h : L[i]? = some x) (d : Nat) : bval (L.set i d) + 32768 ^ i * x = bval L + 32768 ^ i * d := by
  induction L generalizing i with
  | nil => simp at h
  | cons y L ih =>
    cases i with
    | zero =>
      have : y = x := by simpa using h
      subst this
      simp only [List.set_cons_zero, bval, Nat.pow_zero]; omega
    | succ i =>
      have := ih (i := i) (by simpa using h)
      simp only [List.set_cons_succ, bval]
      rw [Nat.pow_succ, Nat.mul_comm (32768 ^ i) 32768, Nat.mul_assoc, Nat.mul_assoc]; omega
-- the sum
theorem add_step {A B i s c : Nat} (h : s + 32768 ^ i * c = A % 32768 ^ i + B % 32768 ^ i) :
    s + 32768 ^ i * ((dg A i + dg B i + c) % 32768) + 32768 ^ (i + 1) * ((dg A i + dg B i + c) / 32768) = A % 32768 ^ (i + 1) + B % 32768 ^ (i + 1) := by
  rw [mod_step, mod_step, pow_step]
  obtain ⟨d, hd⟩ : ∃ d, d = dg A i + dg B i + c := ⟨_, rfl⟩
  have e : 32768 ^ i * d = 32768 ^ i * dg A i + 32768 ^ i * dg B i + 32768 ^ i * c := by rw [hd, Nat.mul_add, Nat.mul_add]
  have e2 : 32768 ^ i * (d % 32768) + 32768 ^ i * 32768 * (d / 32768) = 32768 ^ i * d := by
    rw [Nat.mul_assoc, ← Nat.mul_add]; congr 1; omega
  rw [← hd]
  omega
theorem add_end {A B i s : Nat} (hA : (big A).length ≤ i) (hB : (big B).length ≤ i) (h : s + 32768 ^ i * 0 = A % 32768 ^ i + B % 32768 ^ i) : s = A + B := by
  rw [mod_out hA, mod_out hB] at h; omega
-- the difference
theorem sub_step {A B i s c c' d : Nat} (h : s + B % 32768 ^ i = A % 32768 ^ i + 32768 ^ i * c) (hd : d + dg B i + c = dg A i + 32768 * c') :
    s + 32768 ^ i * d + B % 32768 ^ (i + 1) = A % 32768 ^ (i + 1) + 32768 ^ (i + 1) * c' := by
  rw [mod_step, mod_step, pow_step]
  have e : 32768 ^ i * d + 32768 ^ i * dg B i + 32768 ^ i * c = 32768 ^ i * dg A i + 32768 ^ i * 32768 * c' := by
    rw [← Nat.mul_add, ← Nat.mul_add, hd, Nat.mul_add, Nat.mul_assoc]
  omega
theorem sub_end {A B s c : Nat} (hAB : B ≤ A) (hs : s < 32768 ^ (big A).length) (h : s + B % 32768 ^ (big A).length = A % 32768 ^ (big A).length + 32768 ^ (big A).length * c) : s = A - B := by
  have h1 := big_lt A
  rw [Nat.mod_eq_of_lt h1, Nat.mod_eq_of_lt (show B < 32768 ^ (big A).length by omega)] at h
  rcases c with _ | c
  · omega
  · rw [Nat.mul_add] at h; omega
-- the product
theorem mul_in {W i k p y c o x B : Nat} (h : o + 32768 ^ (i + k) * c = W + 32768 ^ i * (y * (B % 32768 ^ k))) {o' : Nat}
    (hp : p = x + y * dg B k + c) (ho : o' + 32768 ^ (i + k) * x = o + 32768 ^ (i + k) * (p % 32768)) :
    o' + 32768 ^ (i + (k + 1)) * (p / 32768) = W + 32768 ^ i * (y * (B % 32768 ^ (k + 1))) := by
  rw [mod_step, ← Nat.add_assoc, pow_step]
  have e : 32768 ^ (i + k) * p = 32768 ^ (i + k) * x + 32768 ^ (i + k) * (y * dg B k) + 32768 ^ (i + k) * c := by rw [hp, Nat.mul_add, Nat.mul_add]
  have e2 : 32768 ^ (i + k) * (p % 32768) + 32768 ^ (i + k) * 32768 * (p / 32768) = 32768 ^ (i + k) * p := by
    rw [Nat.mul_assoc, ← Nat.mul_add]; congr 1; omega
  have e3 : 32768 ^ i * (y * (B % 32768 ^ k + 32768 ^ k * dg B k)) = 32768 ^ i * (y * (B % 32768 ^ k)) + 32768 ^ (i + k) * (y * dg B k) := by
    rw [Nat.mul_add, Nat.mul_add, Nat.pow_add]
    congr 1
    rw [Nat.mul_assoc]
    congr 1
    rw [← Nat.mul_assoc, ← Nat.mul_assoc, Nat.mul_comm y]
  omega
theorem mul_out {A B i o o' c : Nat} (h : o + 32768 ^ (i + (big B).length) * c = A % 32768 ^ i * B + 32768 ^ i * (dg A i * (B % 32768 ^ (big B).length))) (ho : o' = o + 32768 ^ (i + (big B).length) * c) :
    o' = A % 32768 ^ (i + 1) * B := by
  rw [ho, h, mod_step, mod_out (Nat.le_refl _), Nat.add_mul, Nat.mul_assoc]
-- the quotient
theorem div_in {A b i : Nat} (hb : 0 < b) :
    ((A / 32768 ^ (i + 1)) % b * 32768 + dg A i) / b = A / 32768 ^ i / b - A / 32768 ^ (i + 1) / b * 32768 ∧
    A / 32768 ^ (i + 1) / b * 32768 ≤ A / 32768 ^ i / b ∧
    ((A / 32768 ^ (i + 1)) % b * 32768 + dg A i) % b = A / 32768 ^ i % b ∧
    ((A / 32768 ^ (i + 1)) % b * 32768 + dg A i) / b < 32768 := by
  have h1 := div_step A i
  have hd := dg_lt A i
  obtain ⟨q, hq⟩ : ∃ q, q = A / 32768 ^ (i + 1) := ⟨_, rfl⟩
  rw [← hq] at h1 ⊢
  obtain ⟨x, hx⟩ : ∃ x, x = q % b * 32768 + dg A i := ⟨_, rfl⟩
  have e : A / 32768 ^ i = x + b * (q / b * 32768) := by
    rw [h1, hx]
    have := Nat.div_add_mod q b
    have e2 : b * (q / b * 32768) = b * (q / b) * 32768 := by rw [Nat.mul_assoc]
    omega
  rw [← hx, e, Nat.add_mul_div_left _ _ hb, Nat.add_mul_mod_self_left]
  have g1 : ∀ u v : Nat, u = u + v - v ∧ v ≤ u + v := by omega
  refine ⟨(g1 _ _).1, (g1 _ _).2, rfl, ?_⟩
  have hr : q % b < b := Nat.mod_lt _ hb
  rw [Nat.div_lt_iff_lt_mul hb, hx]
  have : (q % b + 1) * 32768 ≤ b * 32768 := Nat.mul_le_mul_right _ hr
  omega
theorem dg_cons {r d : Nat} : bval (d :: big r) = r * 32768 + d := by rw [bval, bval_big]; omega
end BigM
end Go.Proofs.Ytkihcngllhjabaa
