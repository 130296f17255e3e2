/- Walks: walk.Parent, walk.Sibling, walk.Under. -/
import Derived.Test.YtngealmhgkoaiaaGreatZHashStands02
import Derived.Deep.QuietTactic
namespace Go.Proofs.YtngealmhgkoaiaaGreat
open Go.RowKit WalkM

theorem wrap_pow' {m : Nat} (h : m ≤ 17) : IntKind.i64.wrap (2 ^ m) = ((2 ^ m : Nat) : Int) := by
 have h1 := two_pow_le h
 have h2 := two_pow_pos m
 have e : (2 : Int) ^ m = ((2 ^ m : Nat) : Int) := by simp
 rw [e]
 obtain ⟨p, hp⟩ : ∃ p, p = 2 ^ m := ⟨_, rfl⟩
 rw [← hp] at h1 h2 ⊢
 rw [IntKind.wrap_i64]
 omega
def parZ (x n : Int) : Int := if isOf x n = true ∧ x ≠ n - 1 then ((anc x.toNat (lev x.toNat + 1) : Nat) : Int) else -1
theorem isOf_bd {x n : Int} (h : isOf x n = true) : 0 ≤ x ∧ x ≤ 2 * n - 2 ∧ 1 ≤ n ∧ n ≤ 65536 := by
 unfold isOf at h
 rw [Bool.and_eq_true] at h
 have h1 := fits_small h.1
 have h2 := of_decide_eq_true h.2
 omega
theorem levZ_nat {x : Nat} (h : x ≤ 131070) : levZ (x : Int) = (lev x : Nat) := by
 rw [levZ, if_pos (by rw [isNode, decide_eq_true]; omega), Int.toNat_natCast]
set_option maxRecDepth 100000 in
set_option maxHeartbeats 1000000 in
theorem parent_any (x n : Int) (w : World) (h1 : -9223372036854775808 ≤ n) (h2 : n ≤ 9223372036854775807) :
  Calls Tryz.prog 190 #[.int .i64 x, .int .i64 n] w fun e w' => e = .returned (.int .i64 (parZ x n)) ∧ ∃ k, w' = w.drewN k := by
 have F := of_any x n
 by_cases hf : isOf x n = true
 ·have hs := isOf_bd hf
  rw [hf] at F
  have HF := Lib.hid (F · h1 h2)
  clear F h1 h2
  by_cases hr : x = n - 1
  ·have e : parZ x n = -1 := by rw [parZ, if_neg (by omega)]
   rw [e]
   subst hr
   clear e hf
   go_enter Tryz.func190, Tryz.ntmps190
   go_wp2_with fail
   refine (HF.out _).mono ?_
   rintro e w' ⟨rfl, rfl⟩
   go_wp2_with fail
   go_ret
   exact ⟨rfl, 0, rfl⟩
  ·have e : parZ x n = ((anc x.toNat (lev x.toNat + 1) : Nat) : Int) := by rw [parZ, if_pos ⟨hf, hr⟩]
   rw [e]
   have hc : (x == n - 1) = false := by simp [hr]
   clear e hf hr
   obtain ⟨m, rfl⟩ : ∃ m : Nat, x = (m : Int) := ⟨x.toNat, by omega⟩
   rw [Int.toNat_natCast]
   have hm : m ≤ 131070 := by omega
   have L := level_any (m : Int)
   rw [levZ_nat hm] at L
   have hl := lev_le hm
   have hp := par_bits (lev_is hm) (by omega) (by omega)
   obtain ⟨l, hl'⟩ : ∃ l, l = lev m := ⟨_, rfl⟩
   rw [← hl'] at L hl hp ⊢
   have q1 := two_pow_le (show l ≤ 16 by omega)
   have q2 := two_pow_le (show l + 1 ≤ 17 by omega)
   have w1 := wrap_pow (show l ≤ 17 by omega)
   have w2 := wrap_pow (show l + 1 ≤ 17 by omega)
   have b0 : m ||| 2 ^ l < 2 ^ 17 := Nat.or_lt_two_pow (by omega) (by omega)
   have b1 := i64_or_nat m (2 ^ l) (by omega) (by omega)
   have b2 := i64_andnot_nat (m ||| 2 ^ l) (2 ^ (l + 1)) (by omega) (by omega)
   rw [hp] at b2
   have HL := Lib.hid L
   have W1 := Lib.hid w1
   have W2 := Lib.hid w2
   have B1 := Lib.hid b1
   have B2 := Lib.hid b2
   clear hl' L w1 w2 b1 b2 b0 q1 q2 hp
   go_enter Tryz.func190, Tryz.ntmps190
   go_wp2_with fail
   refine (HF.out _).mono ?_
   rintro e w' ⟨rfl, rfl⟩
   go_wp2_with fail
   refine (HL.out _).mono ?_
   rintro e w' ⟨rfl, rfl⟩
   go_wp2_with fail
   have w3 : IntKind.i64.wrap ((l : Int) + 1) = (l : Int) + 1 := by rw [IntKind.wrap_i64]; omega
   go_quiet (fail)
   clear w3
   have e3 : bits .andNot .i64 (bits .or .i64 (m : Int) (IntKind.i64.wrap (2 ^ l))) (IntKind.i64.wrap (2 ^ (l + 1))) = ((anc m (l + 1) : Nat) : Int) := by
    rw [wrap_pow' (show l ≤ 17 by omega), wrap_pow' (show l + 1 ≤ 17 by omega), B1.out, B2.out]
   rw [e3]
   clear e3
   go_wp2_with fail
   go_ret
   exact ⟨rfl, _, rfl⟩
 ·have e : parZ x n = -1 := by rw [parZ, if_neg (by intro h; exact hf h.1)]
  have hf' : isOf x n = false := by rw [← Bool.not_eq_true]; exact hf
  rw [e]
  rw [hf'] at F
  have HF := Lib.hid (F · h1 h2)
  clear F hf hf' h1 h2 e
  go_enter Tryz.func190, Tryz.ntmps190
  go_wp2_with fail
  refine (HF.out _).mono ?_
  rintro e w' ⟨rfl, rfl⟩
  go_wp2_with fail
  go_ret
  exact ⟨rfl, 0, rfl⟩
end Go.Proofs.YtngealmhgkoaiaaGreat
