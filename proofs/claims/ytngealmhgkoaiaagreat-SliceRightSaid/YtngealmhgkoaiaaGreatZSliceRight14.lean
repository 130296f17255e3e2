/- Walks: walk.Parent, walk.Sibling, walk.Under. -/
import Derived.Test.YtngealmhgkoaiaaGreatZSliceRightB
import Derived.Test.YtngealmhgkoaiaaGreatZSliceRight02
import Derived.Deep.QuietTactic
set_option linter.unusedVariables false
set_option maxRecDepth 100000
set_option maxHeartbeats 40000000
namespace Go.Proofs.YtngealmhgkoaiaaGreat
open Go.RowKit WalkM
theorem Qp {m : Nat} (h : m ≤ 17) : IntKind.i64.wrap (2 ^ m) = ((2 ^ m : Nat) : Int) := by
 have h1 := An h; have h2 := two_pow_pos m; have e : (2 : Int) ^ m = ((2 ^ m : Nat) : Int) := (by simp); rw [e]; obtain ⟨p, hp⟩ := eX (2 ^ m); rw [← hp] at h1 h2 ⊢; rw [IntKind.wrap_i64]; omega
def Je (x n : Int) : Int := if Iz x n = true ∧ x ≠ n - 1 then ((anc x.toNat (lev x.toNat + 1) : Nat) : Int) else -1
theorem Yy {x n : Int} (h : Iz x n = true) : 0 ≤ x ∧ x ≤ 2 * n - 2 ∧ 1 ≤ n ∧ n ≤ 65536 := by
 unfold Iz at h; rw [Bool.and_eq_true] at h; have h1 := Ez h.1; have h2 := of_decide_eq_true h.2; omega
theorem Ft {x : Nat} (h : x ≤ 131070) : Kc (x : Int) = (lev x : Nat) := by
 rw [Kc, if_pos (by rw [Bb, decide_eq_true]; omega), Int.toNat_natCast]
theorem Nd (x n : Int) (w : World) (h1 : -9223372036854775808 ≤ n) (h2 : n ≤ 9223372036854775807) :
  Calls Tryz.prog 190 #[.int .i64 x, .int .i64 n] w fun e w' => e = .returned (.int .i64 (Je x n)) ∧ ∃ k, w' = w.drewN k := by
 have F := Zf7 x n
 by_cases hf : Iz x n = true
 ·have hs := Yy hf; rw [hf] at F; have HF := Hd (F · h1 h2); clear F h1 h2
  by_cases hr : x = n - 1
  ·have e : Je x n = -1 := (by rw [Je, if_neg (by omega)]); rw [e]; subst hr; clear e hf; go_enter Tryz.func190, Tryz.ntmps190; go_wp2_with fail; refine (HF.out _).mono ?_; rintro e w' ⟨rfl, rfl⟩; go_wp2_with fail; go_ret; exact ⟨rfl, 0, rfl⟩
  ·have e : Je x n = ((anc x.toNat (lev x.toNat + 1) : Nat) : Int) := (by rw [Je, if_pos ⟨hf, hr⟩]); rw [e]; have hc : (x == n - 1) = false := (by simp [hr]); clear e hf hr; obtain ⟨m, rfl⟩ : ∃ m : Nat, x = (m : Int) := ⟨x.toNat, by omega⟩; rw [Int.toNat_natCast]; have hm : m ≤ 131070 := (by omega); have L := La (m : Int); rw [Ft hm] at L; have hl := lev_le hm; have hp := Zb4 (lev_is hm) (by omega) (by omega); obtain ⟨l, hl'⟩ : ∃ l, l = lev m := ⟨_, rfl⟩; rw [← hl'] at L hl hp ⊢; have q1 := An (show l ≤ 16 by omega); have q2 := An (show l + 1 ≤ 17 by omega); have w1 := Kj (show l ≤ 17 by omega); have w2 := Kj (show l + 1 ≤ 17 by omega); have b0 : m ||| 2 ^ l < 2 ^ 17 := Nat.or_lt_two_pow (by omega) (by omega)
   have b1 := Wf m (2 ^ l) (by omega) (by omega); have b2 := Mn (m ||| 2 ^ l) (2 ^ (l + 1)) (by omega) (by omega); rw [hp] at b2; have HL := Hd L; have W1 := Hd w1; have W2 := Hd w2; have B1 := Hd b1; have B2 := Hd b2; clear hl' L w1 w2 b1 b2 b0 q1 q2 hp; go_enter Tryz.func190, Tryz.ntmps190; go_wp2_with fail; refine (HF.out _).mono ?_; rintro e w' ⟨rfl, rfl⟩; go_wp2_with fail; refine (HL.out _).mono ?_; rintro e w' ⟨rfl, rfl⟩; go_wp2_with fail; have w3 : IntKind.i64.wrap ((l : Int) + 1) = (l : Int) + 1 := by rw [IntKind.wrap_i64]; omega
   go_quiet (fail)
   clear w3; have e3 : bits .andNot .i64 (bits .or .i64 (m : Int) (IntKind.i64.wrap (2 ^ l))) (IntKind.i64.wrap (2 ^ (l + 1))) = ((anc m (l + 1) : Nat) : Int) := by
    rw [Qp (show l ≤ 17 by omega), Qp (show l + 1 ≤ 17 by omega), B1.out, B2.out]
   rw [e3]; clear e3; go_wp2_with fail; go_ret; exact ⟨rfl, _, rfl⟩
 ·have e : Je x n = -1 := (by rw [Je, if_neg (by intro h; exact hf h.1)]); have hf' : Iz x n = false := (by rw [← Bool.not_eq_true]; exact hf); rw [e]; rw [hf'] at F; have HF := Hd (F · h1 h2); clear F hf hf' h1 h2 e; go_enter Tryz.func190, Tryz.ntmps190; go_wp2_with fail; refine (HF.out _).mono ?_; rintro e w' ⟨rfl, rfl⟩; go_wp2_with fail; go_ret; exact ⟨rfl, 0, rfl⟩
theorem Zey (x n : Int) : -1 ≤ Je x n ∧ (0 ≤ Je x n → Iz x n = true ∧ x ≠ n - 1) := by
 unfold Je
 split
 ·rename_i h; exact ⟨by omega, fun _ => h⟩
 ·exact ⟨by omega, fun h => absurd h (by omega)⟩
def Zd5 (x n : Int) : Int := if Je x n < 0 then -1 else if x < Je x n then Bo (Je x n) else De (Je x n)
end Go.Proofs.YtngealmhgkoaiaaGreat
