/- Plain mathematics: a row that is filled place by place; a column mixed, as the reference has it. -/
import Derived.Test.YtfpjpakjlhidkaaAesWords
namespace Go.Proofs.Ytfpjpakjlhidkaa.AesM

def fillBy (R : List Nat) (d : Nat → Bool) : List Nat := (List.range 16).map fun p => if d p then R.getD p 0 else 0
theorem fillBy_len (R : List Nat) (d : Nat → Bool) : (fillBy R d).length = 16 := by simp [fillBy]
theorem fillBy_get (R : List Nat) (d : Nat → Bool) {p : Nat} (h : p < 16) : (fillBy R d).getD p 0 = if d p then R.getD p 0 else 0 := by
  simp [fillBy, List.getD_eq_getElem?_getD, h]
theorem fill_step (R : List Nat) (d d' : Nat → Bool) {p : Nat} (hp : p < 16) (h : ∀ q, q < 16 → d' q = (d q || q == p)) : (fillBy R d).set p (R.getD p 0) = fillBy R d' := by
  refine ext_getD (by simp [fillBy_len]) ?_
  intro q hq
  rw [List.length_set, fillBy_len] at hq
  rw [getD_set, fillBy_get _ _ hq, fillBy_get _ _ hq, h q hq, fillBy_len]
  by_cases e : p = q
  · subst e; simp [hp]
  · rw [if_neg (by omega)]
    have : (q == p) = false := by simp; omega
    rw [this, Bool.or_false]
theorem fill_all (R : List Nat) (d : Nat → Bool) (hR : R.length = 16) (h : ∀ q, q < 16 → d q = true) : fillBy R d = R := by
  refine ext_getD (by rw [fillBy_len, hR]) ?_
  intro q hq
  rw [fillBy_len] at hq
  rw [fillBy_get _ _ hq, h q hq, if_pos rfl]
theorem fill_none (R : List Nat) (d : Nat → Bool) (h : ∀ q, q < 16 → d q = false) : fillBy R d = List.replicate 16 0 := by
  refine ext_getD (by rw [fillBy_len, List.length_replicate]) ?_
  intro q hq
  rw [fillBy_len] at hq
  rw [fillBy_get _ _ hq, h q hq, if_neg (by simp), List.getD_eq_getElem?_getD, List.getElem?_replicate, if_pos hq]
  rfl
theorem fill_congr (R : List Nat) (d d' : Nat → Bool) (h : ∀ q, q < 16 → d q = d' q) : fillBy R d = fillBy R d' := by
  refine ext_getD (by rw [fillBy_len, fillBy_len]) ?_
  intro q hq
  rw [fillBy_len] at hq
  rw [fillBy_get _ _ hq, fillBy_get _ _ hq, h q hq]
/-- rows first: the place p has been filled before row r, column c -/
def dRC (r c : Nat) : Nat → Bool := fun p => decide (p % 4 < r ∨ p % 4 = r ∧ p / 4 < c)
/-- columns first -/
def dCR (c r : Nat) : Nat → Bool := fun p => decide (p < 4 * c + r)
theorem dRC_step (r c q : Nat) (_hr : r < 4) (_hc : c < 4) (_hq : q < 16) : dRC r (c + 1) q = (dRC r c q || q == r + 4 * c) := by
  unfold dRC
  rw [Bool.eq_iff_iff]
  simp only [decide_eq_true_eq, Bool.or_eq_true, beq_iff_eq]
  omega
theorem dRC_row (r q : Nat) (hq : q < 16) : dRC r 4 q = dRC (r + 1) 0 q := by
  unfold dRC
  rw [Bool.eq_iff_iff]
  simp only [decide_eq_true_eq]
  omega
theorem dCR_step (c r q : Nat) : dCR c (r + 1) q = (dCR c r q || q == r + 4 * c) := by
  unfold dCR
  rw [Bool.eq_iff_iff]
  simp only [decide_eq_true_eq, Bool.or_eq_true, beq_iff_eq]
  omega
theorem dCR_col (c q : Nat) : dCR c 4 q = dCR (c + 1) 0 q := by
  unfold dCR
  rw [Bool.eq_iff_iff]
  simp only [decide_eq_true_eq]
  omega
theorem mixS_out (N : List Nat) : ∀ j p, 4 * j ≤ p → (mixS N j).getD p 0 = N.getD p 0 := by
  intro j
  induction j with
  | zero => intro p _; rfl
  | succ j ih =>
    intro p hp
    rw [mixS, mixN_out _ _ _ _ (by omega)]
    exact ih p (by omega)
theorem mixS_len (N : List Nat) : ∀ j, (mixS N j).length = N.length := by
  intro j
  induction j with
  | zero => rfl
  | succ j ih => rw [mixS, mixN_len]; exact ih
theorem mixv_congr {N N' : List Nat} {off : Nat} (h : ∀ k, k < 4 → N.getD (off + k) 0 = N'.getD (off + k) 0) {r : Nat} (hr : r < 4) : mixv N off r = mixv N' off r := by
  unfold mixv
  simp only
  rw [h r hr, h 0 (by omega), h 1 (by omega), h 2 (by omega), h 3 (by omega), h ((r + 1) % 4) (by omega)]
theorem mixS_in (N : List Nat) (hN : N.length = 16) {c r : Nat} (hc : c < 4) (hr : r < 4) : ∀ d, (mixS N (c + 1 + d)).getD (4 * c + r) 0 = mixv N (4 * c) r := by
  intro d
  induction d with
  | zero =>
    rw [Nat.add_zero, mixS, mixN_in _ _ _ _ hr (by rw [mixS_len]; omega)]
    exact mixv_congr (fun k _ => mixS_out N c _ (by omega)) hr
  | succ d ih =>
    rw [show c + 1 + (d + 1) = c + 1 + d + 1 from by omega, mixS, mixN_out _ _ _ _ (by omega)]
    exact ih
/-- a place of a mixed block, as the reference has it -/
theorem mixAll_get {N : List Nat} (hN : N.length = 16) (hb : ∀ x ∈ N, x < 256) {c r : Nat} (hc : c < 4) (hr : r < 4) :
    (mixAll N).getD (r + 4 * c) 0 = xt (N.getD (r + 4 * c) 0) ^^^ (xt (N.getD ((r + 1) % 4 + 4 * c) 0) ^^^ N.getD ((r + 1) % 4 + 4 * c) 0) ^^^ N.getD ((r + 2) % 4 + 4 * c) 0 ^^^ N.getD ((r + 3) % 4 + 4 * c) 0 := by
  have h := mixS_in N hN hc hr (3 - c)
  rw [show c + 1 + (3 - c) = 4 from by omega] at h
  rw [show r + 4 * c = 4 * c + r from by omega, mixAll, h]
  have g := fun i => getD_lt hb (by omega) i
  have t2 := fun i j => tms_two (xor_lt (g i) (g j))
  have l := fun i j => xt_xor _ (g i) _ (g j)
  have s : ∀ k, k + 4 * c = 4 * c + k := by intro k; omega
  unfold mixv
  simp only [t2, l, s]
  obtain rfl | rfl | rfl | rfl : r = 0 ∨ r = 1 ∨ r = 2 ∨ r = 3 := by omega
  all_goals
    simp only [Nat.reduceAdd, Nat.reduceMod, Nat.zero_add]
    generalize xt (N.getD (4 * c + 0) 0) = x0
    generalize xt (N.getD (4 * c + 1) 0) = x1
    generalize xt (N.getD (4 * c + 2) 0) = x2
    generalize xt (N.getD (4 * c + 3) 0) = x3
    generalize N.getD (4 * c + 0) 0 = a0
    generalize N.getD (4 * c + 1) 0 = a1
    generalize N.getD (4 * c + 2) 0 = a2
    generalize N.getD (4 * c + 3) 0 = a3
    simp only [Nat.xor_comm, xlc, xx, Nat.xor_self, Nat.xor_zero]
theorem tms2l {a : Nat} (ha : a < 256) : tms 2 a = xt a := by rw [tms_comm (by omega) ha, tms_two ha]
theorem tms3l {a : Nat} (ha : a < 256) : tms 3 a = xt a ^^^ a := by
  rw [tms_comm (by omega) ha, tms_sm]
  simp [sm, xtn, Nat.xor_comm]
end Go.Proofs.Ytfpjpakjlhidkaa.AesM
