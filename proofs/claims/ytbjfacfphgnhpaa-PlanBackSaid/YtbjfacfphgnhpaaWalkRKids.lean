/- Walks: the reference's Children. -/
import Derived.Test.YtbjfacfphgnhpaaWalkRLevel
import Derived.Deep.QuietTactic
import Derived.BigQuiet
import Derived.IntWalk
namespace Go.Proofs.Ytbjfacfphgnhpaa
open Go.RowKit WalkM
theorem kids_eq {x : Nat} (hx : x ≤ 131070) (h : 0 < lev x) : ((plo x (lev x) : Int) + x - 1) / 2 = leftZ x ∧ ((x : Int) + 1 + phi x (lev x)) / 2 = rightZ x ∧ plo x (lev x) < phi x (lev x) := by
  have hl := levZ_nat hx
  have hs := anc_self (lev_is hx)
  rw [anc_plo] at hs
  obtain ⟨k, hk⟩ : ∃ k, lev x = k + 1 := ⟨lev x - 1, by omega⟩
  have hh : halfZ x = ((2 ^ k : Nat) : Int) := by
    rw [halfZ, hl, if_pos (by omega), hk]
    simp
  have hp := pow_pos' k
  unfold leftZ rightZ phi
  rw [hh, if_neg (by omega), if_neg (by omega)]
  rw [hk] at hs ⊢
  have e1 : 2 ^ (k + 1) = 2 * 2 ^ k := by rw [Nat.pow_succ]; omega
  have e2 : 2 ^ (k + 1 + 1) = 4 * 2 ^ k := by rw [Nat.pow_succ, e1]; omega
  rw [e1] at hs
  rw [e2]
  refine ⟨?_, ?_, ?_⟩ <;> omega
theorem kids_none {x : Int} (h : ¬ 0 < levZ x) : leftZ x = -1 ∧ rightZ x = -1 := by
  have e : halfZ x = 0 := by rw [halfZ, if_neg h]
  unfold leftZ rightZ
  rw [e]
  exact ⟨rfl, rfl⟩
set_option maxRecDepth 100000 in
set_option maxHeartbeats 1000000 in
theorem kids_any (x : Int) (w : World) :
    Calls Try.prog 43 #[.int .i64 x] w fun e w' => e = .returned (.tuple #[.int .i64 (leftZ x), .int .i64 (rightZ x)]) ∧ Below w.heap.size w w' := by
  by_cases hx : 0 ≤ x ∧ x ≤ 131070
  · obtain ⟨m, rfl⟩ : ∃ m : Nat, x = (m : Int) := ⟨x.toNat, by omega⟩
    have hm : m ≤ 131070 := by omega
    have D := last_most m hm
    have hl16 := lev_le hm
    have hph := phi_le (x := m) (d := 16) (by omega) hl16
    by_cases hl : 0 < lev m
    · have hk := kids_eq hm hl
      obtain ⟨lo, hlo⟩ : ∃ a, a = plo m (lev m) := ⟨_, rfl⟩
      obtain ⟨hi, hhi⟩ : ∃ a, a = phi m (lev m) := ⟨_, rfl⟩
      rw [← hlo, ← hhi] at D hk
      rw [← hhi] at hph
      obtain ⟨k1, k2, k3⟩ := hk
      have hc : ((lo : Int) == (hi : Int)) = false := by rw [beq_eq_false_iff_ne]; omega
      have hhi17 : hi ≤ 131070 := by omega
      have hm1 : (1 : Int) ≤ (lo : Int) + (m : Int) := by
        rcases Nat.eq_zero_or_pos m with h | h
        · subst h; exact absurd hl (by decide)
        · omega
      rw [← k1, ← k2]
      have HD := Lib.hid D
      clear D hl hlo hhi hph k1 k2 hx hl16
      go_enter Try.func43, Try.ntmps43
      go_wp2_with fail
      refine (HD.out _).mono ?_
      rintro e w1 ⟨rfl, hb⟩
      have HB := Lib.hid hb
      clear hb
      go_wp2_with fail
      go_quiet (fail)
      go_wp2_with fail
      go_ret2
      exact ⟨rfl, below_drewN' (HB.out.alloc (by have := HB.out.size; omega) _) _⟩
    · have hlz := levZ_nat hm
      have hk := kids_none (x := (m : Int)) (by rw [hlz]; omega)
      have e0 : phi m (lev m) = plo m (lev m) := by unfold phi; rw [show lev m = 0 by omega]; rfl
      rw [hk.1, hk.2]
      obtain ⟨lo, hlo⟩ : ∃ a, a = plo m (lev m) := ⟨_, rfl⟩
      rw [e0, ← hlo] at D
      rw [e0, ← hlo] at hph
      have HD := Lib.hid D
      clear D hl hlo hk hx e0 hlz hl16
      go_enter Try.func43, Try.ntmps43
      go_wp2_with fail
      refine (HD.out _).mono ?_
      rintro e w1 ⟨rfl, hb⟩
      have HB := Lib.hid hb
      clear hb
      go_wp2_with fail
      go_ret2
      exact ⟨rfl, HB.out.alloc (by have := HB.out.size; omega) _⟩
  · have hn : isNode x = false := by rw [isNode, decide_eq_false]; exact hx
    have D := last_none x hn
    have e : levZ x = -1 := by rw [levZ, if_neg (by rw [hn]; simp)]
    have hk := kids_none (x := x) (by rw [e]; omega)
    rw [hk.1, hk.2]
    have HD := Lib.hid D
    clear D e hn hx hk
    go_enter Try.func43, Try.ntmps43
    go_wp2_with fail
    refine (HD.out _).mono ?_
    rintro e w1 ⟨rfl, hb⟩
    have HB := Lib.hid hb
    clear hb
    go_wp2_with fail
    go_ret2
    exact ⟨rfl, HB.out.alloc (by have := HB.out.size; omega) _⟩
end Go.Proofs.Ytbjfacfphgnhpaa
