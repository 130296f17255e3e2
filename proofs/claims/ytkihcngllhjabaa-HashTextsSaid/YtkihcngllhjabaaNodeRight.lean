/- Walks: node.rightLeaf, noLeaf, noParent, rightParent, right. -/
import Derived.Test.YtkihcngllhjabaaNodeBase
namespace Go.Proofs.Ytkihcngllhjabaa
open Go.RowKit WireM
set_option linter.unusedVariables false
theorem ret_dec {p : Prop} [Decidable p] {b : Bool} (h : b = decide p) : Ending.returned (.bool b) = .returned (.bool (decide p)) := by rw [h]
set_option maxRecDepth 100000 in
set_option maxHeartbeats 2000000 in
theorem rightLeaf_any (a1 a2 a3 a4 a5 : Option Addr) (n1 n2 n3 n4 n5 c1 c2 c3 c4 c5 s : Nat) (w : World) :
    Calls Try.prog 97 #[.agg #[.slice a1 n1 c1, .slice a2 n2 c2, .slice a3 n3 c3, .int .u8 (s : Nat), .slice a4 n4 c4, .slice a5 n5 c5]] w fun e w' => e = .returned (.bool (rlB n1 n2 n3 s n4 n5)) ∧ Below w.heap.size w w' := by
  by_cases k0 : n1 ≠ 32
  · have HE : Hid (rlB n1 n2 n3 s n4 n5 = false) := Lib.hid (by rw [rlB, decide_eq_false_iff_not]; omega)
    have t0 : ((n1 : Int) != 32) = true := by rw [bne_iff_ne]; omega
    clear k0
    go_enter Try.func97, Try.ntmps97
    go_wp2_with fail
    go_ret
    exact ⟨ret_bool HE.out.symm, (Below.refl _ _).alloc (Nat.le_refl _) _⟩
  · have t0 : ((n1 : Int) != 32) = false := by rw [bne_eq_false_iff_eq]; omega
    by_cases k1 : n2 ≠ 32
    · have HE : Hid (rlB n1 n2 n3 s n4 n5 = false) := Lib.hid (by rw [rlB, decide_eq_false_iff_not]; omega)
      have t1 : ((n2 : Int) != 32) = true := by rw [bne_iff_ne]; omega
      clear k1
      go_enter Try.func97, Try.ntmps97
      go_wp2_with fail
      go_ret
      exact ⟨ret_bool HE.out.symm, (Below.refl _ _).alloc (Nat.le_refl _) _⟩
    · have t1 : ((n2 : Int) != 32) = false := by rw [bne_eq_false_iff_eq]; omega
      by_cases k2 : n5 ≠ 64
      · have HE : Hid (rlB n1 n2 n3 s n4 n5 = false) := Lib.hid (by rw [rlB, decide_eq_false_iff_not]; omega)
        have t2 : ((n5 : Int) != 64) = true := by rw [bne_iff_ne]; omega
        clear k2
        go_enter Try.func97, Try.ntmps97
        go_wp2_with fail
        go_ret
        exact ⟨ret_bool HE.out.symm, (Below.refl _ _).alloc (Nat.le_refl _) _⟩
      · have t2 : ((n5 : Int) != 64) = false := by rw [bne_eq_false_iff_eq]; omega
        by_cases k3 : n3 < 1
        · have HE : Hid (rlB n1 n2 n3 s n4 n5 = false) := Lib.hid (by rw [rlB, decide_eq_false_iff_not]; omega)
          have t3 : decide ((n3 : Int) < 1) = true := by rw [decide_eq_true_iff]; omega
          clear k3
          go_enter Try.func97, Try.ntmps97
          go_wp2_with fail
          go_ret
          exact ⟨ret_bool HE.out.symm, (Below.refl _ _).alloc (Nat.le_refl _) _⟩
        · have t3 : decide ((n3 : Int) < 1) = false := by rw [decide_eq_false_iff_not]; omega
          by_cases k4 : 64 < n3
          · have HE : Hid (rlB n1 n2 n3 s n4 n5 = false) := Lib.hid (by rw [rlB, decide_eq_false_iff_not]; omega)
            have t4 : decide (64 < (n3 : Int)) = true := by rw [decide_eq_true_iff]; omega
            clear k4
            go_enter Try.func97, Try.ntmps97
            go_wp2_with fail
            go_ret
            exact ⟨ret_bool HE.out.symm, (Below.refl _ _).alloc (Nat.le_refl _) _⟩
          · have t4 : decide (64 < (n3 : Int)) = false := by rw [decide_eq_false_iff_not]; omega
            by_cases k5 : s < 1
            · have HE : Hid (rlB n1 n2 n3 s n4 n5 = false) := Lib.hid (by rw [rlB, decide_eq_false_iff_not]; omega)
              have t5 : decide ((s : Int) < 1) = true := by rw [decide_eq_true_iff]; omega
              clear k5
              go_enter Try.func97, Try.ntmps97
              go_wp2_with fail
              go_ret
              exact ⟨ret_bool HE.out.symm, (Below.refl _ _).alloc (Nat.le_refl _) _⟩
            · have t5 : decide ((s : Int) < 1) = false := by rw [decide_eq_false_iff_not]; omega
              by_cases k6 : 3 < s
              · have HE : Hid (rlB n1 n2 n3 s n4 n5 = false) := Lib.hid (by rw [rlB, decide_eq_false_iff_not]; omega)
                have t6 : decide (3 < (s : Int)) = true := by rw [decide_eq_true_iff]; omega
                clear k6
                go_enter Try.func97, Try.ntmps97
                go_wp2_with fail
                go_ret
                exact ⟨ret_bool HE.out.symm, (Below.refl _ _).alloc (Nat.le_refl _) _⟩
              · have t6 : decide (3 < (s : Int)) = false := by rw [decide_eq_false_iff_not]; omega
                by_cases k7 : n4 = 0
                · have HE : Hid (rlB n1 n2 n3 s n4 n5 = true) := Lib.hid (by rw [rlB, decide_eq_true_iff]; omega)
                  have t7 : ((n4 : Int) == 0) = true := by rw [beq_iff_eq]; omega
                  clear k0 k1 k2 k3 k4 k5 k6 k7
                  go_enter Try.func97, Try.ntmps97
                  go_wp2_with fail
                  go_ret
                  exact ⟨ret_bool HE.out.symm, (Below.refl _ _).alloc (Nat.le_refl _) _⟩
                · have t7 : ((n4 : Int) == 0) = false := by rw [beq_eq_false_iff_ne]; omega
                  by_cases k8 : s = 3
                  · have t8 : ((s : Int) == 3) = true := by rw [beq_iff_eq]; omega
                    by_cases k9 : n4 = 32
                    · have HE : Hid (rlB n1 n2 n3 s n4 n5 = true) := Lib.hid (by rw [rlB, decide_eq_true_iff]; omega)
                      have t9 : ((n4 : Int) == 32) = true := by rw [beq_iff_eq]; omega
                      clear k0 k1 k2 k3 k4 k5 k6 k7 k8 k9
                      go_enter Try.func97, Try.ntmps97
                      go_wp2_with fail
                      go_ret
                      exact ⟨ret_bool HE.out.symm, (Below.refl _ _).alloc (Nat.le_refl _) _⟩
                    · have HE : Hid (rlB n1 n2 n3 s n4 n5 = false) := Lib.hid (by rw [rlB, decide_eq_false_iff_not]; omega)
                      have t9 : ((n4 : Int) == 32) = false := by rw [beq_eq_false_iff_ne]; omega
                      clear k0 k1 k2 k3 k4 k5 k6 k7 k8 k9
                      go_enter Try.func97, Try.ntmps97
                      go_wp2_with fail
                      go_ret
                      exact ⟨ret_bool HE.out.symm, (Below.refl _ _).alloc (Nat.le_refl _) _⟩
                  · have HE : Hid (rlB n1 n2 n3 s n4 n5 = false) := Lib.hid (by rw [rlB, decide_eq_false_iff_not]; omega)
                    have t8 : ((s : Int) == 3) = false := by rw [beq_eq_false_iff_ne]; omega
                    clear k0 k1 k2 k3 k4 k5 k6 k7 k8
                    go_enter Try.func97, Try.ntmps97
                    go_wp2_with fail
                    go_ret
                    exact ⟨ret_bool HE.out.symm, (Below.refl _ _).alloc (Nat.le_refl _) _⟩
set_option maxRecDepth 100000 in
set_option maxHeartbeats 2000000 in
theorem noLeaf_any (a1 a2 a3 a4 a5 : Option Addr) (n1 n2 n3 n4 n5 c1 c2 c3 c4 c5 s : Nat) (h1 : n1 ≤ maxLen) (hs : n1 + n2 + n3 + n4 + n5 < 4611686018427387904) (w : World) :
    Calls Try.prog 95 #[.agg #[.slice a1 n1 c1, .slice a2 n2 c2, .slice a3 n3 c3, .int .u8 (s : Nat), .slice a4 n4 c4, .slice a5 n5 c5]] w fun e w' => e = .returned (.bool (nlB n1 n2 n3 s n4 n5)) ∧ Below w.heap.size w w' := by
  by_cases k0 : s = 0
  · have t0 : ((s : Int) == 0) = true := by rw [beq_iff_eq]; omega
    by_cases k1 : n1 + n2 + n3 + n4 + n5 = 0
    · have HE : Hid (nlB n1 n2 n3 s n4 n5 = true) := Lib.hid (by rw [nlB, decide_eq_true_iff]; omega)
      have t1 : ((n1 : Int) + (n2 : Int) + (n3 : Int) + (n4 : Int) + (n5 : Int) == 0) = true := by rw [beq_iff_eq]; omega
      clear k0 k1 h1
      go_enter Try.func95, Try.ntmps95
      go_wp2_with fail
      go_ret
      exact ⟨ret_bool HE.out.symm, (Below.refl _ _).alloc (Nat.le_refl _) _⟩
    · have HE : Hid (nlB n1 n2 n3 s n4 n5 = false) := Lib.hid (by rw [nlB, decide_eq_false_iff_not]; omega)
      have t1 : ((n1 : Int) + (n2 : Int) + (n3 : Int) + (n4 : Int) + (n5 : Int) == 0) = false := by rw [beq_eq_false_iff_ne]; omega
      clear k0 k1 h1
      go_enter Try.func95, Try.ntmps95
      go_wp2_with fail
      go_ret
      exact ⟨ret_bool HE.out.symm, (Below.refl _ _).alloc (Nat.le_refl _) _⟩
  · have HE : Hid (nlB n1 n2 n3 s n4 n5 = false) := Lib.hid (by rw [nlB, decide_eq_false_iff_not]; omega)
    have t0 : ((s : Int) == 0) = false := by rw [beq_eq_false_iff_ne]; omega
    clear k0 h1
    go_enter Try.func95, Try.ntmps95
    go_wp2_with fail
    go_ret
    exact ⟨ret_bool HE.out.symm, (Below.refl _ _).alloc (Nat.le_refl _) _⟩
set_option maxRecDepth 100000 in
set_option maxHeartbeats 2000000 in
theorem noParent_any (a1 a2 a3 : Option Addr) (n1 n2 n3 c1 c2 c3 : Nat) (hs : n1 + n2 + n3 < 4611686018427387904) (w : World) :
    Calls Try.prog 96 #[.agg #[.slice a1 n1 c1, .slice a2 n2 c2, .slice a3 n3 c3]] w fun e w' => e = .returned (.bool (npB n1 n2 n3)) ∧ Below w.heap.size w w' := by
  by_cases k1 : n1 + n2 + n3 = 0
  · have HE : Hid (npB n1 n2 n3 = true) := Lib.hid (by rw [npB, decide_eq_true_iff]; omega)
    have t1 : ((n1 : Int) + (n2 : Int) + (n3 : Int) == 0) = true := by rw [beq_iff_eq]; omega
    clear k1
    go_enter Try.func96, Try.ntmps96
    go_wp2_with fail
    go_ret
    exact ⟨ret_bool HE.out.symm, (Below.refl _ _).alloc (Nat.le_refl _) _⟩
  · have HE : Hid (npB n1 n2 n3 = false) := Lib.hid (by rw [npB, decide_eq_false_iff_not]; omega)
    have t1 : ((n1 : Int) + (n2 : Int) + (n3 : Int) == 0) = false := by rw [beq_eq_false_iff_ne]; omega
    clear k1
    go_enter Try.func96, Try.ntmps96
    go_wp2_with fail
    go_ret
    exact ⟨ret_bool HE.out.symm, (Below.refl _ _).alloc (Nat.le_refl _) _⟩
end Go.Proofs.Ytkihcngllhjabaa
