/- Plain: the way down to a place: it comes to the node that is there, and to no other; turns by quarters. -/
import Derived.Test.YtbjfacfphgnhpaaPlanPlace
namespace Go.Proofs.Ytbjfacfphgnhpaa
open Go.RowKit WalkM FloatM
set_option linter.unusedVariables false
def sideZ (k : Nat) (X Y : Int) : Int := if k % 2 = 0 then Y else X
/-- how far to the right of a node of the level k the node lies that is at the place X, Y from it -/
def atO : Nat → Int → Int → Option Int
  | 0, X, Y => if X = 0 ∧ Y = 0 then some 0 else none
  | k + 1, X, Y =>
    if X = 0 ∧ Y = 0 then some 0
    else if sideZ (k + 1) X Y < 0 then (atO k (X + strX ((k + 1 : Nat) : Int)) (Y + strY ((k + 1 : Nat) : Int))).map (· - ((2 ^ k : Nat) : Int))
    else if 0 < sideZ (k + 1) X Y then (atO k (X - strX ((k + 1 : Nat) : Int)) (Y - strY ((k + 1 : Nat) : Int))).map (· + ((2 ^ k : Nat) : Int))
    else none
theorem atO_zero (k : Nat) : atO k 0 0 = some 0 := by cases k <;> simp [atO]
theorem str_odd {k : Nat} (h : k % 2 = 1) (hk : k ≤ 16) : strX (k : Int) = ((2 ^ (k / 2) : Nat) : Int) ∧ strY (k : Int) = 0 := by
  have hu : strU (k : Int) = false := by rw [strU, decide_eq_false (show ¬ (k : Int) % 2 = 0 by omega), Bool.and_false]
  refine ⟨?_, ?_⟩
  · rw [strX, hu, if_neg (by simp), strM, if_pos (by omega)]
    congr 2
    omega
  · rw [strY, hu, if_neg (by simp)]
theorem str_even {k : Nat} (h : k % 2 = 0) (h0 : 0 < k) (hk : k ≤ 16) : strX (k : Int) = 0 ∧ strY (k : Int) = ((2 ^ (k / 2 - 1) : Nat) : Int) := by
  have hu : strU (k : Int) = true := by rw [strU, decide_eq_true (by omega), decide_eq_true (by omega), Bool.and_true]
  refine ⟨?_, ?_⟩
  · rw [strX, hu, if_pos rfl]
  · rw [strY, hu, if_pos rfl, strM, if_pos (by omega)]
    congr 2
    omega
theorem dbl (k : Nat) : 2 ^ (k + 1) = 2 * 2 ^ k := by rw [Nat.pow_succ]; omega
/-- all strides up to a level are less than the next one -/
theorem sum_small (m a : Nat) : ∀ r, a + r ≤ 16 → (-((2 ^ ((a + r + 1) / 2) : Nat) : Int) < sumX m a r ∧ sumX m a r < ((2 ^ ((a + r + 1) / 2) : Nat) : Int)) ∧ -((2 ^ ((a + r) / 2) : Nat) : Int) < sumY m a r ∧ sumY m a r < ((2 ^ ((a + r) / 2) : Nat) : Int) := by
  intro r
  induction r with
  | zero =>
    intro _
    have h1 := pow_pos' ((a + 0 + 1) / 2)
    have h2 := pow_pos' ((a + 0) / 2)
    simp only [sumX, sumY]
    omega
  | succ r ih =>
    intro h
    obtain ⟨hx, hy⟩ := ih (by omega)
    rw [sumX, sumY]
    rcases Nat.mod_two_eq_zero_or_one (a + r + 1) with h2 | h2
    · obtain ⟨e1, e2⟩ := str_even h2 (by omega) (by omega)
      rw [e1, e2]
      have q1 : (a + (r + 1) + 1) / 2 = (a + r + 1) / 2 := by omega
      have q2 : (a + (r + 1)) / 2 = (a + r + 1) / 2 - 1 + 1 := by omega
      have q3 : (a + r) / 2 = (a + r + 1) / 2 - 1 := by omega
      have q4 : (a + (r + 1) + 1) / 2 = (a + r + 1) / 2 - 1 + 1 := by omega
      rw [q2, dbl, show (a + (r + 1) + 1) / 2 = (a + r + 1) / 2 from q1]
      rw [q3] at hy
      obtain ⟨p, hp⟩ : ∃ p, p = 2 ^ ((a + r + 1) / 2 - 1) := ⟨_, rfl⟩
      rw [← hp] at hy ⊢
      rcases sgn_cases m (a + r + 1) with h' | h' <;> rw [h'] <;> omega
    · obtain ⟨e1, e2⟩ := str_odd h2 (by omega)
      rw [e1, e2]
      have q1 : (a + (r + 1) + 1) / 2 = (a + r + 1) / 2 + 1 := by omega
      have q2 : (a + (r + 1)) / 2 = (a + r) / 2 := by omega
      rw [q1, dbl, q2]
      obtain ⟨p, hp⟩ : ∃ p, p = 2 ^ ((a + r + 1) / 2) := ⟨_, rfl⟩
      rw [← hp] at hx ⊢
      rcases sgn_cases m (a + r + 1) with h' | h' <;> rw [h'] <;> omega
/-- one level down -/
theorem anc_step (x j : Nat) : (x ≤ anc x (j + 1) ∧ anc x j + 2 ^ j = anc x (j + 1)) ∨ (anc x (j + 1) < x ∧ anc x j = anc x (j + 1) + 2 ^ j) := by
  have h := halves x j
  have e1 := anc_plo x j
  have e2 := anc_plo x (j + 1)
  have hp := pow_pos' j
  rw [dbl] at e2
  rcases h with ⟨a, b, c⟩ | ⟨a, b, c⟩
  · left; omega
  · right; omega
theorem atO_found (x l : Nat) (hl : IsLev x l) : ∀ r, l + r ≤ 16 → atO (l + r) (sumX x l r) (sumY x l r) = some ((x : Int) - (anc x (l + r) : Nat)) := by
  intro r
  induction r with
  | zero =>
    intro _
    rw [Nat.add_zero, anc_self hl, sumX, sumY, atO_zero]
    simp
  | succ r ih =>
    intro h
    have IH := ih (by omega)
    obtain ⟨⟨hx1, hx2⟩, hy1, hy2⟩ := sum_small x l r (by omega)
    have hne : anc x (l + r + 1) ≠ x := anc_ne (fun h2 => by have := lev_unique hl h2; omega)
    have hst := anc_step x (l + r)
    rw [show l + (r + 1) = l + r + 1 by omega, atO, sumX, sumY]
    obtain ⟨SX, hSX⟩ : ∃ s, s = sumX x l r := ⟨_, rfl⟩
    obtain ⟨SY, hSY⟩ : ∃ s, s = sumY x l r := ⟨_, rfl⟩
    rw [← hSX] at IH hx1 hx2 ⊢
    rw [← hSY] at IH hy1 hy2 ⊢
    have hp : 0 < 2 ^ ((l + r + 1) / 2) := pow_pos' _
    rcases hst with ⟨h1, h2⟩ | ⟨h1, h2⟩
    · have hs : sgn x (l + r + 1) = -1 := by rw [sgn, if_pos (by omega)]
      rw [hs]
      have key : (SX + -1 * strX ((l + r + 1 : Nat) : Int)) + strX ((l + r + 1 : Nat) : Int) = SX := by omega
      have key2 : (SY + -1 * strY ((l + r + 1 : Nat) : Int)) + strY ((l + r + 1 : Nat) : Int) = SY := by omega
      have hside : sideZ (l + r + 1) (SX + -1 * strX ((l + r + 1 : Nat) : Int)) (SY + -1 * strY ((l + r + 1 : Nat) : Int)) < 0 := by
        unfold sideZ
        rcases Nat.mod_two_eq_zero_or_one (l + r + 1) with h2 | h2
        · obtain ⟨e1, e2⟩ := str_even h2 (by omega) (by omega)
          rw [if_pos h2, e2, show (l + r + 1) / 2 - 1 = (l + r) / 2 by omega]; omega
        · obtain ⟨e1, e2⟩ := str_odd h2 (by omega)
          rw [if_neg (by omega), e1]; omega
      have hnz : ¬ (SX + -1 * strX ((l + r + 1 : Nat) : Int) = 0 ∧ SY + -1 * strY ((l + r + 1 : Nat) : Int) = 0) := by
        rintro ⟨a, b⟩
        rw [a, b] at hside
        unfold sideZ at hside
        split at hside <;> omega
      rw [if_neg hnz, if_pos hside, key, key2, IH, Option.map_some]
      congr 1
      omega
    · have hs : sgn x (l + r + 1) = 1 := by rw [sgn, if_neg (by omega)]
      rw [hs]
      have key : (SX + 1 * strX ((l + r + 1 : Nat) : Int)) - strX ((l + r + 1 : Nat) : Int) = SX := by omega
      have key2 : (SY + 1 * strY ((l + r + 1 : Nat) : Int)) - strY ((l + r + 1 : Nat) : Int) = SY := by omega
      have hside : 0 < sideZ (l + r + 1) (SX + 1 * strX ((l + r + 1 : Nat) : Int)) (SY + 1 * strY ((l + r + 1 : Nat) : Int)) := by
        unfold sideZ
        rcases Nat.mod_two_eq_zero_or_one (l + r + 1) with h2 | h2
        · obtain ⟨e1, e2⟩ := str_even h2 (by omega) (by omega)
          rw [if_pos h2, e2, show (l + r + 1) / 2 - 1 = (l + r) / 2 by omega]; omega
        · obtain ⟨e1, e2⟩ := str_odd h2 (by omega)
          rw [if_neg (by omega), e1]; omega
      have hnz : ¬ (SX + 1 * strX ((l + r + 1 : Nat) : Int) = 0 ∧ SY + 1 * strY ((l + r + 1 : Nat) : Int) = 0) := by
        rintro ⟨a, b⟩
        rw [a, b] at hside
        unfold sideZ at hside
        split at hside <;> omega
      rw [if_neg hnz, if_neg (by omega), if_pos hside, key, key2, IH, Option.map_some]
      congr 1
      omega
/-- the children of a node -/
theorem kids_of {c k : Nat} (h : IsLev c (k + 1)) : 2 ^ k ≤ c ∧ IsLev (c - 2 ^ k) k ∧ IsLev (c + 2 ^ k) k ∧ anc (c - 2 ^ k) (k + 1) = c ∧ anc (c + 2 ^ k) (k + 1) = c := by
  unfold IsLev at h
  have hp := pow_pos' k
  have e1 := dbl k
  have e2 := dbl (k + 1)
  have hd := Nat.div_add_mod c (2 ^ (k + 1 + 1))
  rw [h] at hd
  obtain ⟨q, hq⟩ : ∃ q, q = c / 2 ^ (k + 1 + 1) := ⟨_, rfl⟩
  rw [← hq] at hd
  have lo : (c - 2 ^ k) = 2 ^ (k + 1 + 1) * q + (2 ^ k - 1) := by omega
  have hi : (c + 2 ^ k) = 2 ^ (k + 1 + 1) * q + (2 ^ (k + 1) + 2 ^ k - 1) := by omega
  have dl : (c - 2 ^ k) / 2 ^ (k + 1 + 1) = q := by
    rw [lo, Nat.mul_add_div (pow_pos' _), Nat.div_eq_of_lt (by omega), Nat.add_zero]
  have dh : (c + 2 ^ k) / 2 ^ (k + 1 + 1) = q := by
    rw [hi, Nat.mul_add_div (pow_pos' _), Nat.div_eq_of_lt (by omega), Nat.add_zero]
  refine ⟨by omega, ?_, ?_, ?_, ?_⟩
  · unfold IsLev
    rw [lo, e2, Nat.mul_assoc, Nat.mul_comm 2, Nat.mul_assoc, Nat.mul_add_mod]
    exact Nat.mod_eq_of_lt (by omega)
  · unfold IsLev
    rw [hi, show 2 ^ (k + 1 + 1) * q + (2 ^ (k + 1) + 2 ^ k - 1) = 2 ^ (k + 1) * (2 * q + 1) + (2 ^ k - 1) by rw [e2, Nat.mul_add, Nat.mul_one, Nat.mul_comm 2 (2 ^ (k + 1)), Nat.mul_assoc]; omega, Nat.mul_add_mod]
    exact Nat.mod_eq_of_lt (by omega)
  · unfold anc
    rw [dl, Nat.mul_comm]; omega
  · unfold anc
    rw [dh, Nat.mul_comm]; omega
theorem atO_sound : ∀ (k : Nat), k ≤ 16 → ∀ (c : Nat) (X Y o : Int), IsLev c k → atO k X Y = some o →
    ∃ x l : Nat, (x : Int) = c + o ∧ anc x k = c ∧ IsLev x l ∧ l ≤ k ∧ sumX x l (k - l) = X ∧ sumY x l (k - l) = Y := by
  intro k
  induction k with
  | zero =>
    intro _ c X Y o hc h
    rw [atO] at h
    split at h
    · rename_i h0
      injection h with h
      exact ⟨c, 0, by omega, anc_self hc, hc, by omega, by rw [h0.1]; rfl, by rw [h0.2]; rfl⟩
    · cases h
  | succ k ih =>
    intro hk c X Y o hc h
    obtain ⟨c0, cl, cr, al, ar⟩ := kids_of hc
    rw [atO] at h
    split at h
    · rename_i h0
      injection h with h
      refine ⟨c, k + 1, by omega, anc_self hc, hc, by omega, ?_, ?_⟩
      · rw [Nat.sub_self, h0.1]; rfl
      · rw [Nat.sub_self, h0.2]; rfl
    · split at h
      · rw [Option.map_eq_some_iff] at h
        obtain ⟨o', h1, h2⟩ := h
        obtain ⟨x, l, hx, ha, hl, hlk, sx, sy⟩ := ih (by omega) (c - 2 ^ k) _ _ o' cl h1
        have hak : anc x (k + 1) = c := by rw [← anc_anc (x := x) (j := k) (k := k + 1) (by omega), ha, al]
        have hst := anc_step x k
        rw [ha, hak] at hst
        have hp := pow_pos' k
        have hne : x ≠ c := fun e => by subst e; have := lev_unique hl hc; omega
        have hs : sgn x (k + 1) = -1 := by rw [sgn, hak, if_pos (by omega)]
        refine ⟨x, l, by omega, hak, hl, by omega, ?_, ?_⟩
        · rw [show k + 1 - l = k - l + 1 by omega, sumX, sx, show l + (k - l) + 1 = k + 1 by omega, hs]; omega
        · rw [show k + 1 - l = k - l + 1 by omega, sumY, sy, show l + (k - l) + 1 = k + 1 by omega, hs]; omega
      · split at h
        · rw [Option.map_eq_some_iff] at h
          obtain ⟨o', h1, h2⟩ := h
          obtain ⟨x, l, hx, ha, hl, hlk, sx, sy⟩ := ih (by omega) (c + 2 ^ k) _ _ o' cr h1
          have hak : anc x (k + 1) = c := by rw [← anc_anc (x := x) (j := k) (k := k + 1) (by omega), ha, ar]
          have hst := anc_step x k
          rw [ha, hak] at hst
          have hp := pow_pos' k
          have hs : sgn x (k + 1) = 1 := by rw [sgn, hak, if_neg (by omega)]
          refine ⟨x, l, by omega, hak, hl, by omega, ?_, ?_⟩
          · rw [show k + 1 - l = k - l + 1 by omega, sumX, sx, show l + (k - l) + 1 = k + 1 by omega, hs]; omega
          · rw [show k + 1 - l = k - l + 1 by omega, sumY, sy, show l + (k - l) + 1 = k + 1 by omega, hs]; omega
        · cases h
theorem sideZ_neg (k : Nat) (X Y : Int) : sideZ k (-X) (-Y) = -sideZ k X Y := by unfold sideZ; split <;> rfl
theorem atO_neg : ∀ (k : Nat) (X Y : Int), atO k (-X) (-Y) = (atO k X Y).map (- ·) := by
  intro k
  induction k with
  | zero =>
    intro X Y
    rw [atO, atO]
    by_cases h : X = 0 ∧ Y = 0
    · rw [if_pos h, if_pos (by omega)]; rfl
    · rw [if_neg h, if_neg (by omega)]; rfl
  | succ k ih =>
    intro X Y
    rw [atO, atO, sideZ_neg]
    by_cases h : X = 0 ∧ Y = 0
    · rw [if_pos h, if_pos (by omega)]; rfl
    · rw [if_neg h, if_neg (by omega)]
      by_cases h1 : sideZ (k + 1) X Y < 0
      · rw [if_pos h1, if_neg (by omega), if_pos (by omega)]
        rw [show -X - strX ((k + 1 : Nat) : Int) = -(X + strX ((k + 1 : Nat) : Int)) by omega, show -Y - strY ((k + 1 : Nat) : Int) = -(Y + strY ((k + 1 : Nat) : Int)) by omega, ih]
        rw [Option.map_map, Option.map_map]
        congr 1
        funext o
        simp only [Function.comp]
        omega
      · by_cases h2 : 0 < sideZ (k + 1) X Y
        · rw [if_neg h1, if_pos h2, if_pos (by omega)]
          rw [show -X + strX ((k + 1 : Nat) : Int) = -(X - strX ((k + 1 : Nat) : Int)) by omega, show -Y + strY ((k + 1 : Nat) : Int) = -(Y - strY ((k + 1 : Nat) : Int)) by omega, ih]
          rw [Option.map_map, Option.map_map]
          congr 1
          funext o
          simp only [Function.comp]
          omega
        · rw [if_neg h1, if_neg h2, if_neg (by omega), if_neg (by omega)]; rfl
/-- the node at a place of a tree -/
def atZ (X Y n : Int) : Option Int := if fits n.toNat = true then (atO (Nat.log2 n.toNat) X Y).map (fun o => n - 1 + o) else none
theorem fits_out {n : Int} (h : fits n.toNat = true) : ∃ d : Nat, d ≤ 16 ∧ n = ((2 ^ d : Nat) : Int) := by
  obtain ⟨d, hd, e⟩ := (fits_iff _).1 h
  have := fits_small h
  exact ⟨d, hd, by omega⟩
theorem fits_pow {d : Nat} (h : d ≤ 16) : fits (((2 ^ d : Nat) : Int)).toNat = true := by
  rw [Int.toNat_natCast]; exact (fits_iff _).2 ⟨d, h, rfl⟩
theorem root_lev (d : Nat) : IsLev (2 ^ d - 1) d := by
  unfold IsLev
  have := pow_pos' d
  have := dbl d
  exact Nat.mod_eq_of_lt (by omega)
theorem at_found {x n : Int} (h : isOf x n = true) : atZ (plX x n) (plY x n) n = some x := by
  have ho := h
  obtain ⟨m, d, rfl, rfl, hd, hm⟩ := isOf_out h
  have h17 := two_pow_le (show d + 1 ≤ 17 by omega)
  have hlv := lev_is (x := m) (by omega)
  have hl := (lev_root hm hlv).1
  have hf := atO_found m (lev m) hlv (d - lev m) (by omega)
  rw [show lev m + (d - lev m) = d by omega, anc_root (by omega)] at hf
  have hp := pow_pos' d
  rw [atZ, if_pos (fits_pow hd), plX, plY, if_pos ho, if_pos ho, Int.toNat_natCast, Int.toNat_natCast, Nat.log2_two_pow, hf, Option.map_some]
  congr 1
  omega
theorem at_sound {x n X Y : Int} (h : atZ X Y n = some x) : isOf x n = true ∧ plX x n = X ∧ plY x n = Y := by
  unfold atZ at h
  split at h
  · rename_i hf
    obtain ⟨d, hd, rfl⟩ := fits_out hf
    rw [Int.toNat_natCast, Nat.log2_two_pow, Option.map_eq_some_iff] at h
    obtain ⟨o, h1, h2⟩ := h
    obtain ⟨m, l, hx, ha, hl, hld, sx, sy⟩ := atO_sound d hd (2 ^ d - 1) X Y o (root_lev d) h1
    have hp := pow_pos' d
    have hm : m < 2 ^ (d + 1) := by
      rcases Nat.lt_or_ge m (2 ^ (d + 1)) with h | h
      · exact h
      · exfalso
        have h1 : 1 ≤ m / 2 ^ (d + 1) := (Nat.le_div_iff_mul_le (pow_pos' _)).2 (by omega)
        have h2 : 2 ^ (d + 1) ≤ m / 2 ^ (d + 1) * 2 ^ (d + 1) := Nat.le_mul_of_pos_left _ h1
        unfold anc at ha
        have := dbl d
        omega
    have hm2 : m + 1 < 2 ^ (d + 1) := by
      rcases Nat.lt_or_ge (m + 1) (2 ^ (d + 1)) with h | h
      · exact h
      · exfalso
        have hd' := dbl d
        have e : m = 2 ^ (d + 1) - 1 := by omega
        have hle : l ≤ d := hld
        unfold IsLev at hl
        rw [e, ones_mod (by omega)] at hl
        have := dbl l
        have := pow_pos' l
        omega
    have h17 := two_pow_le (show d + 1 ≤ 17 by omega)
    have hd' := dbl d
    have hlev : lev m = l := lev_eq (by omega) hl
    have ex : x = (m : Int) := by omega
    subst ex
    have ho : isOf (m : Int) ((2 ^ d : Nat) : Int) = true := by
      rw [isOf, fits_pow hd, Bool.true_and, decide_eq_true_iff]; omega
    refine ⟨ho, ?_, ?_⟩
    · rw [plX, if_pos ho, Int.toNat_natCast, Int.toNat_natCast, Nat.log2_two_pow, hlev, sx]
    · rw [plY, if_pos ho, Int.toNat_natCast, Int.toNat_natCast, Nat.log2_two_pow, hlev, sy]
  · cases h
theorem at_is {x n X Y : Int} (h : isOf x n = true) : (plX x n = X ∧ plY x n = Y) ↔ atZ X Y n = some x := by
  constructor
  · rintro ⟨rfl, rfl⟩; exact at_found h
  · intro h; exact (at_sound h).2
theorem place_inj {x y n : Int} (hx : isOf x n = true) (hy : isOf y n = true) (h1 : plX x n = plX y n) (h2 : plY x n = plY y n) : x = y := by
  have a := at_found hx
  have b := at_found hy
  rw [h1, h2, b] at a
  injection a with a
  exact a.symm
/-- a place turned by half -/
theorem at_neg {x n X Y : Int} (h : atZ X Y n = some x) : atZ (-X) (-Y) n = some (2 * n - 2 - x) := by
  unfold atZ at h ⊢
  split at h
  · rename_i hf
    rw [if_pos hf, atO_neg]
    rw [Option.map_eq_some_iff] at h
    obtain ⟨o, h1, h2⟩ := h
    rw [h1, Option.map_some, Option.map_some]
    congr 1
    omega
  · cases h
/-- a leaf's place in a square plan -/
def SqP (k : Nat) (X : Int) : Prop := -((2 ^ k : Nat) : Int) < X ∧ X < ((2 ^ k : Nat) : Int) ∧ (X + ((2 ^ k : Nat) : Int)) % 2 = 1
theorem sq_neg {k : Nat} {X : Int} (h : SqP k X) : SqP k (-X) := by unfold SqP at *; omega
theorem even_pow (k : Nat) : 2 ^ (k + 1) % 2 = 0 := by rw [dbl]; omega
theorem sq_step {k : Nat} {X : Int} (h : SqP (k + 1) X) : X ≠ 0 ∧ (X < 0 → SqP k (X + ((2 ^ k : Nat) : Int))) ∧ (0 < X → SqP k (X - ((2 ^ k : Nat) : Int))) := by
  unfold SqP at *
  have e := dbl k
  obtain ⟨p, hp⟩ : ∃ p, p = 2 ^ k := ⟨_, rfl⟩
  rw [e] at h
  rw [← hp] at h ⊢
  omega
theorem atO_square : ∀ (k : Nat), 2 * k ≤ 16 → ∀ X Y, SqP k X → SqP k Y → ∃ o, atO (2 * k) X Y = some o ∧ ∀ c : Nat, IsLev c (2 * k) → ∃ m : Nat, (c : Int) + o = (m : Int) ∧ m % 2 = 0 := by
  intro k
  induction k with
  | zero =>
    intro _ X Y hX hY
    unfold SqP at hX hY
    have e : 2 ^ 0 = 1 := rfl
    rw [e] at hX hY
    obtain rfl : X = 0 := by omega
    obtain rfl : Y = 0 := by omega
    refine ⟨0, rfl, fun c hc => ⟨c, by omega, ?_⟩⟩
    unfold IsLev at hc
    simp at hc
    omega
  | succ k ih =>
    intro hk X Y hX hY
    obtain ⟨x0, x1, x2⟩ := sq_step hX
    obtain ⟨y0, y1, y2⟩ := sq_step hY
    obtain ⟨a1, a2⟩ := str_even (k := 2 * k + 1 + 1) (by omega) (by omega) (by omega)
    obtain ⟨b1, b2⟩ := str_odd (k := 2 * k + 1) (by omega) (by omega)
    rw [show (2 * k + 1 + 1) / 2 - 1 = k by omega] at a2
    rw [show (2 * k + 1) / 2 = k by omega] at b1
    have low : ∀ Y', SqP k Y' → ∃ o, atO (2 * k + 1) X Y' = some o ∧ ∀ c : Nat, IsLev c (2 * k + 1) → ∃ m : Nat, (c : Int) + o = (m : Int) ∧ m % 2 = 0 := by
      intro Y' hY'
      have hs : sideZ (2 * k + 1) X Y' = X := by rw [sideZ, if_neg (by omega)]
      rw [atO, if_neg (fun h => x0 h.1), hs, b1, b2]
      by_cases hx : X < 0
      · obtain ⟨o, ho, hc⟩ := ih (by omega) _ _ (x1 hx) hY'
        rw [if_pos hx, show Y' + 0 = Y' by omega, ho, Option.map_some]
        refine ⟨_, rfl, fun c hcl => ?_⟩
        obtain ⟨c0, cl, _, _, _⟩ := kids_of hcl
        obtain ⟨m, hm, he⟩ := hc _ cl
        exact ⟨m, by omega, he⟩
      · obtain ⟨o, ho, hc⟩ := ih (by omega) _ _ (x2 (by omega)) hY'
        rw [if_neg hx, if_pos (by omega), show Y' - 0 = Y' by omega, ho, Option.map_some]
        refine ⟨_, rfl, fun c hcl => ?_⟩
        obtain ⟨c0, _, cr, _, _⟩ := kids_of hcl
        obtain ⟨m, hm, he⟩ := hc _ cr
        exact ⟨m, by omega, he⟩
    have hs : sideZ (2 * k + 1 + 1) X Y = Y := by rw [sideZ, if_pos (by omega)]
    rw [show 2 * (k + 1) = 2 * k + 1 + 1 by omega, atO, if_neg (fun h => x0 h.1), hs, a1, a2]
    by_cases hy : Y < 0
    · obtain ⟨o, ho, hc⟩ := low _ (y1 hy)
      rw [if_pos hy, show X + 0 = X by omega, ho, Option.map_some]
      refine ⟨_, rfl, fun c hcl => ?_⟩
      obtain ⟨c0, cl, _, _, _⟩ := kids_of hcl
      obtain ⟨m, hm, he⟩ := hc _ cl
      exact ⟨m, by omega, he⟩
    · obtain ⟨o, ho, hc⟩ := low _ (y2 (by omega))
      rw [if_neg hy, if_pos (by omega), show X - 0 = X by omega, ho, Option.map_some]
      refine ⟨_, rfl, fun c hcl => ?_⟩
      obtain ⟨c0, _, cr, _, _⟩ := kids_of hcl
      obtain ⟨m, hm, he⟩ := hc _ cr
      exact ⟨m, by omega, he⟩
theorem at_square {k : Nat} (hk : 2 * k ≤ 16) {X Y : Int} (hX : SqP k X) (hY : SqP k Y) : ∃ x : Int, atZ X Y ((2 ^ (2 * k) : Nat) : Int) = some x ∧ x % 2 = 0 := by
  obtain ⟨o, ho, hc⟩ := atO_square k hk X Y hX hY
  obtain ⟨m, hm, he⟩ := hc _ (root_lev _)
  have hp := pow_pos' (2 * k)
  refine ⟨(m : Int), ?_, by omega⟩
  rw [atZ, if_pos (fits_pow hk), Int.toNat_natCast, Nat.log2_two_pow, ho, Option.map_some]
  congr 1
  omega
theorem sum_square (m : Nat) : ∀ k, 2 * k ≤ 16 → SqP k (sumX m 0 (2 * k)) ∧ SqP k (sumY m 0 (2 * k)) := by
  intro k
  induction k with
  | zero => intro _; unfold SqP; simp [sumX, sumY]
  | succ k ih =>
    intro h
    obtain ⟨hx, hy⟩ := ih (by omega)
    obtain ⟨a1, a2⟩ := str_even (k := 0 + (2 * k + 1) + 1) (by omega) (by omega) (by omega)
    obtain ⟨b1, b2⟩ := str_odd (k := 0 + 2 * k + 1) (by omega) (by omega)
    rw [show (0 + (2 * k + 1) + 1) / 2 - 1 = k by omega] at a2
    rw [show (0 + 2 * k + 1) / 2 = k by omega] at b1
    rw [show 2 * (k + 1) = 2 * k + 1 + 1 by omega, sumX, sumX, sumY, sumY, a1, a2, b1, b2]
    have e := dbl k
    unfold SqP at *
    rw [e]
    obtain ⟨p, hp⟩ : ∃ p, p = 2 ^ k := ⟨_, rfl⟩
    rw [← hp] at hx hy ⊢
    rcases sgn_cases m (0 + 2 * k + 1) with h1 | h1 <;> rcases sgn_cases m (0 + (2 * k + 1) + 1) with h2 | h2 <;> rw [h1, h2] <;> omega
/-- a leaf's place in a square plan -/
theorem leaf_square {k : Nat} (hk : 2 * k ≤ 16) {x : Int} (hx : isOf x ((2 ^ (2 * k) : Nat) : Int) = true) (he : x % 2 = 0) : SqP k (plX x ((2 ^ (2 * k) : Nat) : Int)) ∧ SqP k (plY x ((2 ^ (2 * k) : Nat) : Int)) := by
  have hb := isOf_bd hx
  obtain ⟨m, rfl⟩ : ∃ m : Nat, x = (m : Int) := ⟨x.toNat, by omega⟩
  have hl : lev m = 0 := (even_lev (by omega)).1 (by omega)
  rw [plX, plY, if_pos hx, if_pos hx, Int.toNat_natCast, Int.toNat_natCast, Nat.log2_two_pow, hl, Nat.sub_zero]
  exact sum_square m k hk
/-- turned by quarters -/
def turnN : Nat → Int × Int → Int × Int
  | 0, z => z
  | k + 1, z => (-(turnN k z).2, (turnN k z).1)
theorem turnN_add (a b : Nat) (z : Int × Int) : turnN (a + b) z = turnN a (turnN b z) := by
  induction a with
  | zero => rw [Nat.zero_add]; rfl
  | succ a ih => rw [show a + 1 + b = a + b + 1 by omega, turnN, turnN, ih]
theorem turnN_four (z : Int × Int) : turnN 4 z = z := by
  obtain ⟨x, y⟩ := z
  simp [turnN]
theorem turnN_sq {k : Nat} (q : Nat) {z : Int × Int} (h : SqP k z.1 ∧ SqP k z.2) : SqP k (turnN q z).1 ∧ SqP k (turnN q z).2 := by
  induction q with
  | zero => exact h
  | succ q ih => rw [turnN]; exact ⟨sq_neg ih.2, ih.1⟩
theorem turnN_bd (q : Nat) {z : Int × Int} {b : Int} (h : (-b ≤ z.1 ∧ z.1 ≤ b) ∧ -b ≤ z.2 ∧ z.2 ≤ b) : (-b ≤ (turnN q z).1 ∧ (turnN q z).1 ≤ b) ∧ -b ≤ (turnN q z).2 ∧ (turnN q z).2 ≤ b := by
  induction q with
  | zero => exact h
  | succ q ih => rw [turnN]; simp only; omega
end Go.Proofs.Ytbjfacfphgnhpaa
