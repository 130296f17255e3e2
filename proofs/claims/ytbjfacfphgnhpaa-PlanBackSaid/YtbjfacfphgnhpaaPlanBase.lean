/- Walks: plan.of, the reference's Stride, plan.Stride. -/
import Derived.Test.YtbjfacfphgnhpaaWalkAlive
import Derived.Test.YtbjfacfphgnhpaaFloatInt
namespace Go.Proofs.Ytbjfacfphgnhpaa
open Go.RowKit WalkM FloatM
set_option linter.unusedVariables false
set_option maxRecDepth 100000 in
set_option maxHeartbeats 1000000 in
theorem pof_any (x n : Int) (w : World) (h1 : -9223372036854775808 ≤ n) (h2 : n ≤ 9223372036854775807) :
    Calls Try.prog 52 #[.int .i64 x, .int .i64 n] w fun e w' => e = .returned (.bool (isOf x n)) ∧ w = w' := by
  have F := fits_any n
  by_cases hf : fits n.toNat = true
  · have hs := fits_small hf
    have hn1 : 1 ≤ n := by omega
    have hn2 : n ≤ 65536 := by omega
    simp only [isOf, hf, Bool.true_and]
    rw [hf] at F
    have HF := Lib.hid F
    clear F hf hs h1 h2
    have hd : x < 0 ∨ (0 ≤ x ∧ 2 * n - 2 < x) ∨ (0 ≤ x ∧ x ≤ 2 * n - 2) := by omega
    rcases hd with h | ⟨h, h'⟩ | ⟨h, h'⟩
    · have e : decide (0 ≤ x ∧ x ≤ 2 * n - 2) = false := by rw [decide_eq_false]; omega
      rw [e]
      clear e
      go_enter Try.func52, Try.ntmps52
      go_wp2_with fail
      refine (HF.out _ (by omega) (by omega)).mono ?_
      rintro e w' ⟨rfl, rfl⟩
      go_wp2_with fail
      go_ret
      exact ⟨rfl, rfl⟩
    · have e : decide (0 ≤ x ∧ x ≤ 2 * n - 2) = false := by rw [decide_eq_false]; omega
      rw [e]
      clear e
      go_enter Try.func52, Try.ntmps52
      go_wp2_with fail
      refine (HF.out _ (by omega) (by omega)).mono ?_
      rintro e w' ⟨rfl, rfl⟩
      go_wp2_with fail
      go_ret
      exact ⟨ret_bool (decide_eq_false (by omega)), rfl⟩
    · have e : decide (0 ≤ x ∧ x ≤ 2 * n - 2) = true := by rw [decide_eq_true]; omega
      rw [e]
      clear e
      go_enter Try.func52, Try.ntmps52
      go_wp2_with fail
      refine (HF.out _ (by omega) (by omega)).mono ?_
      rintro e w' ⟨rfl, rfl⟩
      go_wp2_with fail
      go_ret
      exact ⟨rfl, rfl⟩
  · have hf' : fits n.toNat = false := by rw [← Bool.not_eq_true]; exact hf
    simp only [isOf, hf', Bool.false_and]
    rw [hf'] at F
    have HF := Lib.hid (F · h1 h2)
    clear F hf hf' h1 h2
    go_enter Try.func52, Try.ntmps52
    go_wp2_with fail
    refine (HF.out _).mono ?_
    rintro e w' ⟨rfl, rfl⟩
    go_wp2_with fail
    go_ret
    exact ⟨rfl, rfl⟩
/-- how far a level's stride goes, and whether up -/
def strM (l : Int) : Int := if 1 ≤ l ∧ l ≤ 16 then ((2 ^ ((l - 1) / 2).toNat : Nat) : Int) else 0
def strU (l : Int) : Bool := decide (1 ≤ l ∧ l ≤ 16) && decide (l % 2 = 0)
theorem strM_bd (l : Int) : 0 ≤ strM l ∧ strM l ≤ 128 := by
  unfold strM
  split
  · have := two_pow_le (show ((l - 1) / 2).toNat ≤ 7 by omega)
    have h2 := two_pow_pos ((l - 1) / 2).toNat
    omega
  · omega
set_option maxRecDepth 100000 in
set_option maxHeartbeats 1000000 in
theorem rstride_any (l : Int) (w : World) :
    Calls Try.prog 15 #[.int .i64 l] w fun e w' => e = .returned (.tuple #[.int .i64 (strM l), .bool (strU l)]) ∧ w = w' := by
  by_cases h : 1 ≤ l ∧ l ≤ 16
  · obtain ⟨h1, h2⟩ := h
    obtain ⟨n, rfl⟩ : ∃ n : Nat, l = (n : Int) + 1 := ⟨(l - 1).toNat, by omega⟩
    have hn : n ≤ 15 := by omega
    have e : strM ((n : Int) + 1) = ((2 ^ (n / 2) : Nat) : Int) := by
      rw [strM, if_pos (by omega)]
      congr 2
      omega
    have e2 : strU ((n : Int) + 1) = (((n : Int) + 1) % 2 == 0) := by
      rw [strU, decide_eq_true (by omega), Bool.true_and]
      rfl
    rw [e, e2]
    clear e e2 h1 h2
    go_enter Try.func15, Try.ntmps15
    go_wp2_with fail
    go_loopg [4, 5] (n / 2) (fun q s i wr => ∃ r : Nat, r + q = n / 2 ∧ i = .int .i64 ((r : Int) + 1) ∧ s = .int .i64 ((2 ^ r : Nat) : Int) ∧ wr = w)
    case atStart => exact ⟨0, by omega, rfl, rfl, rfl⟩
    case round =>
      obtain ⟨r, hr, rfl, rfl, rfl⟩ := hrel
      have hp := two_pow_le (show r ≤ 7 by omega)
      have he : 2 ^ (r + 1) = 2 * 2 ^ r := by rw [Nat.pow_succ]; omega
      by_cases hrn : r < n / 2
      · have hd : decide ((r : Int) + 1 ≤ (n : Int) / 2) = true := by rw [decide_eq_true_iff]; omega
        obtain ⟨p, hpp⟩ : ∃ p, p = 2 ^ r := ⟨_, rfl⟩
        rw [← hpp] at hp he ⊢
        have HE := Lib.hid he
        clear he hpp
        go_wp2_with fail
        go_roundg (gk - 1)
        case measure => omega
        case rel => exact ⟨r + 1, by omega, by go_num, val_int (by rw [HE.out]; omega), rfl⟩
      · obtain rfl : r = n / 2 := by omega
        have hd : decide (((n / 2 : Nat) : Int) + 1 ≤ (n : Int) / 2) = false := by rw [decide_eq_false_iff_not]; omega
        clear he
        go_wp2_with fail
        go_ret2
        exact ⟨rfl, rfl⟩
  · have e : strM l = 0 := by rw [strM, if_neg h]
    have e2 : strU l = false := by rw [strU, decide_eq_false h, Bool.false_and]
    rw [e, e2]
    clear e e2
    have hd : l < 1 ∨ (1 ≤ l ∧ 16 < l) := by omega
    clear h
    rcases hd with h | ⟨h, h'⟩
    all_goals
      go_enter Try.func15, Try.ntmps15
      go_wp2_with fail
      go_ret2
      exact ⟨rfl, rfl⟩
/-- a stride as a complex number -/
def strX (l : Int) : Int := if strU l = true then 0 else strM l
def strY (l : Int) : Int := if strU l = true then strM l else 0
/-- a complex number that stands for a place -/
def CP (v : Value) (X Y : Int) : Prop := ∃ re im, v = .complex .f64 re im ∧ IsF re X ∧ IsF im Y
def RetC (X Y : Int) (w : World) (e : Ending) (w' : World) : Prop := ∃ v, e = .returned v ∧ CP v X Y ∧ w = w'
set_option maxRecDepth 100000 in
set_option maxHeartbeats 1000000 in
theorem stride_any (l : Int) (w : World) :
    Calls Try.prog 16 #[.int .i64 l] w (RetC (strX l) (strY l) w) := by
  by_cases h : 1 ≤ l ∧ l ≤ 16
  · obtain ⟨h1, h2⟩ := h
    obtain ⟨n, rfl⟩ : ∃ n : Nat, l = (n : Int) + 1 := ⟨(l - 1).toNat, by omega⟩
    have hn : n ≤ 15 := by omega
    have e : strM ((n : Int) + 1) = ((2 ^ (n / 2) : Nat) : Int) := by
      rw [strM, if_pos (by omega)]
      congr 2
      omega
    have hp := two_pow_le (show n / 2 ≤ 7 by omega)
    have hw := wrap_pow (show n / 2 ≤ 17 by omega)
    have eI : ((2 ^ (n / 2) : Nat) : Int) = (2 : Int) ^ (n / 2) := by simp
    have hI : IsF (floatOfInt .f64 ((2 : Int) ^ (n / 2))) ((2 : Int) ^ (n / 2)) := isF_int _ (by rw [← eI, Int.natAbs_natCast]; omega)
    have hb : ((2 : Int) ^ (n / 2)).natAbs < 2 ^ 53 := by rw [← eI, Int.natAbs_natCast]; omega
    rw [eI] at e
    by_cases hev : n % 2 = 1
    · have e2 : strU ((n : Int) + 1) = true := by
        rw [strU, decide_eq_true (by omega), Bool.true_and, decide_eq_true (by omega)]
      have ht : (((n : Int) + 1) % 2 == 0) = true := by rw [beq_iff_eq]; omega
      rw [strX, strY, if_pos e2, if_pos e2, e]
      obtain ⟨re, im, hm, hre, him⟩ := cmul_i hI isF_zero hb (by decide)
      have hmul := fun w => run_complex_mul (P := Try.prog) w 25 _ _ _ _ _ _ hm
      have hre' : IsF re 0 := hre
      have HRE := Lib.hid hre'
      have HIM := Lib.hid him
      clear hm hev h1 h2 e e2 hre hre' him hI hb eI
      go_enter Try.func16, Try.ntmps16
      go_wp2_with fail
      go_ret
      exact ⟨_, rfl, ⟨_, _, rfl, HRE.out, HIM.out⟩, rfl⟩
    · have e2 : strU ((n : Int) + 1) = false := by
        rw [strU, decide_eq_false (show ¬ ((n : Int) + 1) % 2 = 0 by omega), Bool.and_false]
      have ht : (((n : Int) + 1) % 2 == 0) = false := by rw [beq_eq_false_iff_ne]; omega
      rw [strX, strY, e2, if_neg (by simp), if_neg (by simp), e]
      have HI := Lib.hid hI
      clear hev h1 h2 e e2 hI hb eI
      go_enter Try.func16, Try.ntmps16
      go_wp2_with fail
      go_ret
      exact ⟨_, rfl, ⟨_, _, rfl, HI.out, isF_zero⟩, rfl⟩
  · have hd : l < 1 ∨ (1 ≤ l ∧ 16 < l) := by omega
    have e2 : strU l = false := by rw [strU, decide_eq_false h, Bool.false_and]
    rw [strX, strY, e2, if_neg (by simp), if_neg (by simp), strM, if_neg h]
    clear h e2
    rcases hd with h | ⟨h, h'⟩
    all_goals
      go_enter Try.func16, Try.ntmps16
      go_wp2_with fail
      go_ret
      exact ⟨_, rfl, ⟨0, 0, rfl, isF_zero, isF_zero⟩, rfl⟩
end Go.Proofs.Ytbjfacfphgnhpaa
