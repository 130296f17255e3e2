/- Walks: math/bits.OnesCount, walk.Fits, walk.node, walk.Level, walk.half. -/
import Derived.Test.YtbjfacfphgnhpaaProg
import Derived.Test.YtbjfacfphgnhpaaWalkMath
import Derived.Test.YtbjfacfphgnhpaaWalkPop
import Derived.Test.YtbjfacfphgnhpaaBitsLib
import Derived.Test.YtbjfacfphgnhpaaJumps
import Derived.WalkKit
import Derived.WalkSpells
import Derived.WalkLawsBesides
import Derived.Lib.Hide
namespace Go.Proofs.Ytbjfacfphgnhpaa
open Go.RowKit WalkM

theorem and_le_r (n m : Nat) : n &&& m ≤ n := Nat.and_le_left
set_option maxRecDepth 100000 in
set_option maxHeartbeats 1000000 in
theorem ones_any (n : Nat) (hn : n ≤ 65536) (w : World) :
    Calls Try.prog 59 #[.int .u64 n] w fun e w' => e = .returned (.int .i64 (popc n : Nat)) ∧ w = w' := by
  have b1 := and_le_r (n / 2) 6148914691236517205
  have b1' := and_le_r n 6148914691236517205
  have e1 := u64_and_nat (n / 2) 6148914691236517205 (by omega) (by omega)
  have e1' := u64_and_nat n 6148914691236517205 (by omega) (by omega)
  have d1 : pop1 n = ((n / 2) &&& 6148914691236517205) + (n &&& 6148914691236517205) := rfl
  obtain ⟨p1, hp1⟩ : ∃ p, p = (n / 2) &&& 6148914691236517205 := ⟨_, rfl⟩
  obtain ⟨q1, hq1⟩ : ∃ p, p = n &&& 6148914691236517205 := ⟨_, rfl⟩
  rw [← hp1] at b1 e1 d1
  rw [← hq1] at b1' e1' d1
  have b2 := and_le_r ((p1 + q1) / 4) 3689348814741910323
  have b2' := and_le_r (p1 + q1) 3689348814741910323
  have e2 := u64_and_nat ((p1 + q1) / 4) 3689348814741910323 (by omega) (by omega)
  have e2' := u64_and_nat (p1 + q1) 3689348814741910323 (by omega) (by omega)
  have d2 : pop2 (p1 + q1) = (((p1 + q1) / 4) &&& 3689348814741910323) + ((p1 + q1) &&& 3689348814741910323) := rfl
  obtain ⟨p2, hp2⟩ : ∃ p, p = ((p1 + q1) / 4) &&& 3689348814741910323 := ⟨_, rfl⟩
  obtain ⟨q2, hq2⟩ : ∃ p, p = (p1 + q1) &&& 3689348814741910323 := ⟨_, rfl⟩
  rw [← hp2] at b2 e2 d2
  rw [← hq2] at b2' e2' d2
  have b3 := and_le_r ((p2 + q2) / 16 + (p2 + q2)) 1085102592571150095
  have e3 := u64_and_nat ((p2 + q2) / 16 + (p2 + q2)) 1085102592571150095 (by omega) (by omega)
  have d3 : pop3 (p2 + q2) = ((p2 + q2) / 16 + (p2 + q2)) &&& 1085102592571150095 := rfl
  obtain ⟨p3, hp3⟩ : ∃ p, p = ((p2 + q2) / 16 + (p2 + q2)) &&& 1085102592571150095 := ⟨_, rfl⟩
  rw [← hp3] at b3 e3 d3
  have e4 := i64_and_nat (p3 + p3 / 256 + (p3 + p3 / 256) / 65536 + (p3 + p3 / 256 + (p3 + p3 / 256) / 65536) / 4294967296) 127 (by omega) (by omega)
  have d4 : popc n = (p3 + p3 / 256 + (p3 + p3 / 256) / 65536 + (p3 + p3 / 256 + (p3 + p3 / 256) / 65536) / 4294967296) &&& 127 := by
    rw [popc, d1, d2, d3]; rfl
  rw [← d4] at e4
  simp only [Int.natCast_add, Int.natCast_ediv, Int.cast_ofNat_Int] at e1 e1' e2 e2' e3 e4
  have D := Lib.hid d4
  clear d1 d2 d3 d4 hp1 hq1 hp2 hq2 hp3
  go_enter Try.func59, Try.ntmps59
  go_wp2
  go_ret
  exact ⟨rfl, rfl⟩

theorem fits_small {n : Nat} (h : fits n = true) : 1 ≤ n ∧ n ≤ 65536 := by
  obtain ⟨d, hd, rfl⟩ := (fits_iff n).1 h
  have h1 := pow_pos' d
  have h2 : 2 ^ d ≤ 2 ^ 16 := Nat.pow_le_pow_right (by omega) hd
  omega
set_option maxRecDepth 100000 in
set_option maxHeartbeats 1000000 in
theorem fits_any (n : Int) (w : World) (h1 : -9223372036854775808 ≤ n) (h2 : n ≤ 9223372036854775807) :
    Calls Try.prog 37 #[.int .i64 n] w fun e w' => e = .returned (.bool (fits n.toNat)) ∧ w = w' := by
  by_cases hr : 1 ≤ n ∧ n ≤ 65536
  · obtain ⟨m, rfl⟩ : ∃ m : Nat, n = (m : Int) := ⟨n.toNat, by omega⟩
    have hm : m ≤ 65536 := by omega
    have O := ones_any m hm
    have hp := popc_fits m hm
    have e : (((popc m : Nat) : Int) == 1) = fits m := by
      rw [← hp, Bool.eq_iff_iff]; simp only [beq_iff_eq]; omega
    obtain ⟨c, hc⟩ : ∃ c, c = popc m := ⟨_, rfl⟩
    obtain ⟨f, hf⟩ : ∃ f, f = fits m := ⟨_, rfl⟩
    rw [← hc] at O e
    rw [← hf] at e
    rw [Int.toNat_natCast, ← hf]
    have HO := Lib.hid O
    clear O hp hc hf h1 h2
    go_enter Try.func37, Try.ntmps37
    go_wp2_with fail
    refine (HO.out _).mono ?_
    rintro e w' ⟨rfl, rfl⟩
    go_wp2_with fail
    go_ret
    exact ⟨rfl, rfl⟩
  · have hz : fits n.toNat = false := by
      rw [← Bool.not_eq_true]
      intro h
      have := fits_small h
      omega
    rw [hz]
    have hd : n < 1 ∨ (1 ≤ n ∧ 65536 < n) := by omega
    clear hz hr
    rcases hd with h | ⟨h, h'⟩
    all_goals
      go_enter Try.func37, Try.ntmps37
      go_wp2_with fail
      go_ret
      exact ⟨rfl, rfl⟩

def isNode (x : Int) : Bool := decide (0 ≤ x ∧ x ≤ 131070)
set_option maxRecDepth 100000 in
set_option maxHeartbeats 1000000 in
theorem node_any (x : Int) (w : World) :
    Calls Try.prog 58 #[.int .i64 x] w fun e w' => e = .returned (.bool (isNode x)) ∧ w = w' := by
  have hd : x < 0 ∨ (0 ≤ x ∧ 131070 < x) ∨ (0 ≤ x ∧ x ≤ 131070) := by omega
  rcases hd with h | ⟨h, h'⟩ | ⟨h, h'⟩
  · have e : isNode x = false := by rw [isNode, decide_eq_false]; omega
    rw [e]
    clear e
    go_enter Try.func58, Try.ntmps58
    go_wp2_with fail
    go_ret
    exact ⟨rfl, rfl⟩
  · have e : isNode x = false := by rw [isNode, decide_eq_false]; omega
    rw [e]
    clear e
    go_enter Try.func58, Try.ntmps58
    go_wp2_with fail
    go_ret
    exact ⟨ret_bool (decide_eq_false (by omega)), rfl⟩
  · have e : isNode x = true := by rw [isNode, decide_eq_true]; omega
    rw [e]
    clear e
    go_enter Try.func58, Try.ntmps58
    go_wp2_with fail
    go_ret
    exact ⟨rfl, rfl⟩
/-- whether x is a node of the tree of n leaves -/
def isOf (x n : Int) : Bool := fits n.toNat && decide (0 ≤ x ∧ x ≤ 2 * n - 2)
set_option maxRecDepth 100000 in
set_option maxHeartbeats 1000000 in
theorem of_any (x n : Int) (w : World) (h1 : -9223372036854775808 ≤ n) (h2 : n ≤ 9223372036854775807) :
    Calls Try.prog 55 #[.int .i64 x, .int .i64 n] w fun e w' => e = .returned (.bool (isOf x n)) ∧ w = w' := by
  have F := fits_any n
  by_cases hf : fits n.toNat = true
  · have hs := fits_small hf
    have hn1 : 1 ≤ n := by omega
    have hn2 : n ≤ 65536 := by omega
    simp only [isOf, hf, Bool.true_and]
    rw [hf] at F
    have HF := Lib.hid F
    clear F hf hs h1 h2
    have hd : x < 0 ∨ (0 ≤ x ∧ 2 * n - 2 < x) ∨ (0 ≤ x ∧ x ≤ 2 * n - 2) := by omega
    rcases hd with h | ⟨h, h'⟩ | ⟨h, h'⟩
    · have e : decide (0 ≤ x ∧ x ≤ 2 * n - 2) = false := by rw [decide_eq_false]; omega
      rw [e]
      clear e
      go_enter Try.func55, Try.ntmps55
      go_wp2_with fail
      refine (HF.out _ (by omega) (by omega)).mono ?_
      rintro e w' ⟨rfl, rfl⟩
      go_wp2_with fail
      go_ret
      exact ⟨rfl, rfl⟩
    · have e : decide (0 ≤ x ∧ x ≤ 2 * n - 2) = false := by rw [decide_eq_false]; omega
      rw [e]
      clear e
      go_enter Try.func55, Try.ntmps55
      go_wp2_with fail
      refine (HF.out _ (by omega) (by omega)).mono ?_
      rintro e w' ⟨rfl, rfl⟩
      go_wp2_with fail
      go_ret
      exact ⟨ret_bool (decide_eq_false (by omega)), rfl⟩
    · have e : decide (0 ≤ x ∧ x ≤ 2 * n - 2) = true := by rw [decide_eq_true]; omega
      rw [e]
      clear e
      go_enter Try.func55, Try.ntmps55
      go_wp2_with fail
      refine (HF.out _ (by omega) (by omega)).mono ?_
      rintro e w' ⟨rfl, rfl⟩
      go_wp2_with fail
      go_ret
      exact ⟨rfl, rfl⟩
  · have hf' : fits n.toNat = false := by rw [← Bool.not_eq_true]; exact hf
    simp only [isOf, hf', Bool.false_and]
    rw [hf'] at F
    have HF := Lib.hid (F · h1 h2)
    clear F hf hf' h1 h2
    go_enter Try.func55, Try.ntmps55
    go_wp2_with fail
    refine (HF.out _).mono ?_
    rintro e w' ⟨rfl, rfl⟩
    go_wp2_with fail
    go_ret
    exact ⟨rfl, rfl⟩
end Go.Proofs.Ytbjfacfphgnhpaa
