/- Walks: PlanHalf. -/
import Derived.Test.YtbjfacfphgnhpaaPlanRAt
namespace Go.Proofs.Ytbjfacfphgnhpaa
open Go.RowKit WalkM FloatM
set_option linter.unusedVariables false
theorem turn_two {x n : Int} (h : isOf x n = true) : turnR x n 2 = some (2 * n - 2 - x) := by
  rw [turnR, if_pos h, show qrt 2 = 2 from by decide]
  exact at_neg (at_found h)
theorem turn_four {x n : Int} (h : isOf x n = true) : turnR x n 4 = some x := by
  rw [turnR, if_pos h, show qrt 4 = 0 from by decide]
  exact at_found h
theorem turns_back {x n : Int} {k : Nat} (hk : 2 * k ≤ 16) (hn : n = ((2 ^ (2 * k) : Nat) : Int)) (h : isOf x n = true) (he : x % 2 = 0) (q : Int) :
    ∃ u v, turnR x n q = some u ∧ u % 2 = 0 ∧ 0 ≤ u ∧ turnR u n 3 = some v ∧ turnR v n 1 = some u := by
  subst hn
  have hs := leaf_square hk h he
  have h1 := turnN_sq (qrt q) (z := (plX x ((2 ^ (2 * k) : Nat) : Int), plY x ((2 ^ (2 * k) : Nat) : Int))) hs
  obtain ⟨u, hu, hu2⟩ := at_square hk h1.1 h1.2
  obtain ⟨hou, hux, huy⟩ := at_sound hu
  have h2 := turnN_sq 3 (z := (plX u ((2 ^ (2 * k) : Nat) : Int), plY u ((2 ^ (2 * k) : Nat) : Int))) (by rw [hux, huy]; exact h1)
  obtain ⟨v, hv, hv2⟩ := at_square hk h2.1 h2.2
  obtain ⟨hov, hvx, hvy⟩ := at_sound hv
  refine ⟨u, v, by rw [turnR, if_pos h]; exact hu, hu2, (isOf_bd hou).1, ?_, ?_⟩
  · rw [turnR, if_pos hou, show qrt 3 = 3 from by decide]; exact hv
  · rw [turnR, if_pos hov, show qrt 1 = 1 from by decide, hvx, hvy]
    have e := turnN_add 1 3 (plX u ((2 ^ (2 * k) : Nat) : Int), plY u ((2 ^ (2 * k) : Nat) : Int))
    rw [show 1 + 3 = 4 from rfl, turnN_four] at e
    rw [show ((turnN 3 (plX u ((2 ^ (2 * k) : Nat) : Int), plY u ((2 ^ (2 * k) : Nat) : Int))).1, (turnN 3 (plX u ((2 ^ (2 * k) : Nat) : Int), plY u ((2 ^ (2 * k) : Nat) : Int))).2) = turnN 3 (plX u ((2 ^ (2 * k) : Nat) : Int), plY u ((2 ^ (2 * k) : Nat) : Int)) from rfl, ← e]
    exact at_found hou
set_option maxRecDepth 100000 in
set_option maxHeartbeats 2000000 in
theorem half_off (x n q : Int) (hx : -9223372036854775808 ≤ x ∧ x ≤ 9223372036854775807) (hn : -9223372036854775808 ≤ n ∧ n ≤ 9223372036854775807) (ho : isOf x n = false) (w : World) :
    Calls Try.prog 13 #[.int .i64 x, .int .i64 n, .int .i64 q] w fun e w' => e = .returned (.bool true) ∧ Below w.heap.size w w' := by
  have HA := Lib.hid (fun w => alive15 w)
  have F := rfits_any n
  by_cases hf : fits n.toNat = true
  · have hs := fits_small hf
    have hn1 : 1 ≤ n := by omega
    have hn2 : n ≤ 65536 := by omega
    rw [hf] at F
    have HF := Lib.hid F
    have hd : x < 0 ∨ (0 ≤ x ∧ 2 * n - 2 < x) := by
      rw [isOf, hf, Bool.true_and, decide_eq_false_iff_not] at ho; omega
    clear F hf hs hx hn ho
    rcases hd with k1 | ⟨k1, k2⟩
    all_goals
      go_enter Try.func13, Try.ntmps13
      go_wp2_with fail
      refine (HA.out _).mono ?_
      rintro e w1 ⟨rfl, hb1⟩
      have HB1 := Lib.hid hb1
      clear hb1
      go_wp2_with fail
      refine (HF.out _).mono ?_
      rintro e w' ⟨rfl, rfl⟩
      go_wp2_with fail
      go_ret
      exact ⟨rfl, HB1.out⟩
  · have hf' : fits n.toNat = false := by rw [← Bool.not_eq_true]; exact hf
    rw [hf'] at F
    have HF := Lib.hid F
    clear F hf hf' hx hn ho
    go_enter Try.func13, Try.ntmps13
    go_wp2_with fail
    refine (HA.out _).mono ?_
    rintro e w1 ⟨rfl, hb1⟩
    have HB1 := Lib.hid hb1
    clear hb1
    go_wp2_with fail
    refine (HF.out _).mono ?_
    rintro e w' ⟨rfl, rfl⟩
    go_wp2_with fail
    go_ret
    exact ⟨rfl, HB1.out⟩
set_option maxRecDepth 100000 in
set_option maxHeartbeats 2000000 in
theorem half_no (x n q : Int) (hq : -9223372036854775808 ≤ q ∧ q ≤ 9223372036854775807) (ho : isOf x n = true) (m0 : (n == 1) = false) (m1 : (n == 4) = false) (m2 : (n == 16) = false) (m3 : (n == 64) = false) (m4 : (n == 256) = false) (m5 : (n == 1024) = false) (m6 : (n == 4096) = false) (m7 : (n == 16384) = false) (m8 : (n == 65536) = false) (w : World) :
    Calls Try.prog 13 #[.int .i64 x, .int .i64 n, .int .i64 q] w fun e w' => e = .returned (.bool true) ∧ Below w.heap.size w w' := by
  have HA := Lib.hid (fun w => alive15 w)
  have F := rfits_any n
  have hf : fits n.toNat = true := by have := ho; rw [isOf, Bool.and_eq_true] at this; exact this.1
  rw [hf] at F
  have hb := isOf_bd ho
  obtain ⟨x1, x2, n1, n2⟩ := hb
  have T2 := fun w => turn_any x n 2 w (by omega) (by omega) (by omega) (by omega)
  have T4 := fun w => turn_any x n 4 w (by omega) (by omega) (by omega) (by omega)
  rw [turn_two ho] at T2
  rw [turn_four ho] at T4
  have T2' : ∀ w, Calls Try.prog 47 #[.int .i64 x, .int .i64 n, .int .i64 2] w fun e w' => e = .returned (.tuple #[.int .i64 (2 * n - 2 - x), .bool true]) ∧ Below w.heap.size w w' := T2
  have T4' : ∀ w, Calls Try.prog 47 #[.int .i64 x, .int .i64 n, .int .i64 4] w fun e w' => e = .returned (.tuple #[.int .i64 x, .bool true]) ∧ Below w.heap.size w w' := T4
  have HF := Lib.hid F
  have HT2 := Lib.hid T2'
  have HT4 := Lib.hid T4'
  have q1 : ((2 * n - 2 - x) != (2 * n - 2 - x)) = false := by simp
  have q2 : (x != x) = false := by simp
  clear F T2 T4 T2' T4' ho hf hq
  go_enter Try.func13, Try.ntmps13
  go_wp2_with fail
  refine (HA.out _).mono ?_
  rintro e w1 ⟨rfl, hb1⟩
  have HB1 := Lib.hid hb1
  clear hb1
  go_wp2_with fail
  refine (HF.out _).mono ?_
  rintro e w' ⟨rfl, rfl⟩
  go_wp2_with fail
  refine (HT2.out _).mono ?_
  rintro e w2 ⟨rfl, hb2⟩
  have HB2 := Lib.hid (Below.next HB1.out hb2)
  clear hb2
  go_wp2_with fail
  refine (HT4.out _).mono ?_
  rintro e w3 ⟨rfl, hb3⟩
  have HB3 := Lib.hid (Below.next HB2.out hb3)
  clear hb3
  go_wp2_with fail
  go_ret
  exact ⟨rfl, HB3.out⟩
set_option maxRecDepth 100000 in
set_option maxHeartbeats 2000000 in
theorem half_1 (x q : Int) (hq : -9223372036854775808 ≤ q ∧ q ≤ 9223372036854775807) (ho : isOf x 1 = true) (w : World) :
    Calls Try.prog 13 #[.int .i64 x, .int .i64 1, .int .i64 q] w fun e w' => e = .returned (.bool true) ∧ Below w.heap.size w w' := by
  have hbk := fun (he : x % 2 = 0) => turns_back (k := 0) (by omega) rfl ho he q
  have hqq := hq
  obtain ⟨n, hn⟩ : ∃ n : Int, n = 1 := ⟨_, rfl⟩
  have HN := Lib.hid hn
  have hbk' : x % 2 = 0 → ∃ u v, turnR x n q = some u ∧ u % 2 = 0 ∧ 0 ≤ u ∧ turnR u n 3 = some v ∧ turnR v n 1 = some u := by rw [hn]; exact hbk
  rw [← hn] at ho ⊢
  clear hbk
  have HA := Lib.hid (fun w => alive15 w)
  have F := rfits_any n
  have hf : fits n.toNat = true := by have := ho; rw [isOf, Bool.and_eq_true] at this; exact this.1
  rw [hf] at F
  have hb := isOf_bd ho
  obtain ⟨x1, x2, n1, n2⟩ := hb
  have T2 := fun w => turn_any x n 2 w (by omega) (by omega) (by omega) (by omega)
  have T4 := fun w => turn_any x n 4 w (by omega) (by omega) (by omega) (by omega)
  rw [turn_two ho] at T2
  rw [turn_four ho] at T4
  have T2' : ∀ w, Calls Try.prog 47 #[.int .i64 x, .int .i64 n, .int .i64 2] w fun e w' => e = .returned (.tuple #[.int .i64 (2 * n - 2 - x), .bool true]) ∧ Below w.heap.size w w' := T2
  have T4' : ∀ w, Calls Try.prog 47 #[.int .i64 x, .int .i64 n, .int .i64 4] w fun e w' => e = .returned (.tuple #[.int .i64 x, .bool true]) ∧ Below w.heap.size w w' := T4
  have HF := Lib.hid F
  have HT2 := Lib.hid T2'
  have HT4 := Lib.hid T4'
  have q1 : ((2 * n - 2 - x) != (2 * n - 2 - x)) = false := by simp
  have q2 : (x != x) = false := by simp
  have TU := fun (x q : Int) w (h3 : -9223372036854775808 ≤ q) (h4 : q ≤ 9223372036854775807) => turn_any x n q w (by omega) (by omega) h3 h4
  have HTU := Lib.hid TU
  clear F T2 T4 T2' T4' ho hf hq TU
  have m0 : (n == 1) = true := by rw [beq_iff_eq]; omega
  clear hn
  by_cases he : x % 2 = 0
  · obtain ⟨u, v, hu, hu2, hu0, hv, hw⟩ := hbk' he
    have TU := fun w => HTU.out x q w hqq.1 hqq.2
    have TV := fun w => HTU.out u 3 w (by omega) (by omega)
    have TW := fun w => HTU.out v 1 w (by omega) (by omega)
    rw [hu] at TU
    rw [hv] at TV
    rw [hw] at TW
    have TU' : ∀ w, Calls Try.prog 47 #[.int .i64 x, .int .i64 n, .int .i64 q] w fun e w' => e = .returned (.tuple #[.int .i64 u, .bool true]) ∧ Below w.heap.size w w' := TU
    have TV' : ∀ w, Calls Try.prog 47 #[.int .i64 u, .int .i64 n, .int .i64 3] w fun e w' => e = .returned (.tuple #[.int .i64 v, .bool true]) ∧ Below w.heap.size w w' := TV
    have TW' : ∀ w, Calls Try.prog 47 #[.int .i64 v, .int .i64 n, .int .i64 1] w fun e w' => e = .returned (.tuple #[.int .i64 u, .bool true]) ∧ Below w.heap.size w w' := TW
    have HU := Lib.hid TU'
    have HV := Lib.hid TV'
    have HW := Lib.hid TW'
    have e1 : (x % 2 == 1) = false := by rw [beq_eq_false_iff_ne]; omega
    have e2 : (u % 2 == 0) = true := by rw [beq_iff_eq]; exact hu2
    have e3 : (u == u) = true := by simp
    clear TU TV TW TU' TV' TW' hu hv hw hu2 he hbk' hqq
    go_enter Try.func13, Try.ntmps13
    go_wp2_with fail
    refine (HA.out _).mono ?_
    rintro e w1 ⟨rfl, hb1⟩
    have HB1 := Lib.hid hb1
    clear hb1
    go_wp2_with fail
    refine (HF.out _).mono ?_
    rintro e w' ⟨rfl, rfl⟩
    go_wp2_with fail
    refine (HT2.out _).mono ?_
    rintro e w2 ⟨rfl, hb2⟩
    have HB2 := Lib.hid (Below.next HB1.out hb2)
    clear hb2
    go_wp2_with fail
    refine (HT4.out _).mono ?_
    rintro e w3 ⟨rfl, hb3⟩
    have HB3 := Lib.hid (Below.next HB2.out hb3)
    clear hb3
    go_wp2_with fail
    refine (HU.out _).mono ?_
    rintro e w4 ⟨rfl, hb4⟩
    have HB4 := Lib.hid (Below.next HB3.out hb4)
    clear hb4
    go_wp2_with fail
    refine (HV.out _).mono ?_
    rintro e w5 ⟨rfl, hb5⟩
    have HB5 := Lib.hid (Below.next HB4.out hb5)
    clear hb5
    go_wp2_with fail
    refine (HW.out _).mono ?_
    rintro e w6 ⟨rfl, hb6⟩
    have HB6 := Lib.hid (Below.next HB5.out hb6)
    clear hb6
    go_wp2_with fail
    go_ret
    exact ⟨rfl, HB6.out⟩
  · have e1 : (x % 2 == 1) = true := by rw [beq_iff_eq]; omega
    clear hbk' he hqq
    go_enter Try.func13, Try.ntmps13
    go_wp2_with fail
    refine (HA.out _).mono ?_
    rintro e w1 ⟨rfl, hb1⟩
    have HB1 := Lib.hid hb1
    clear hb1
    go_wp2_with fail
    refine (HF.out _).mono ?_
    rintro e w' ⟨rfl, rfl⟩
    go_wp2_with fail
    refine (HT2.out _).mono ?_
    rintro e w2 ⟨rfl, hb2⟩
    have HB2 := Lib.hid (Below.next HB1.out hb2)
    clear hb2
    go_wp2_with fail
    refine (HT4.out _).mono ?_
    rintro e w3 ⟨rfl, hb3⟩
    have HB3 := Lib.hid (Below.next HB2.out hb3)
    clear hb3
    go_wp2_with fail
    go_ret
    exact ⟨rfl, HB3.out⟩
set_option maxRecDepth 100000 in
set_option maxHeartbeats 2000000 in
theorem half_4 (x q : Int) (hq : -9223372036854775808 ≤ q ∧ q ≤ 9223372036854775807) (ho : isOf x 4 = true) (w : World) :
    Calls Try.prog 13 #[.int .i64 x, .int .i64 4, .int .i64 q] w fun e w' => e = .returned (.bool true) ∧ Below w.heap.size w w' := by
  have hbk := fun (he : x % 2 = 0) => turns_back (k := 1) (by omega) rfl ho he q
  have hqq := hq
  obtain ⟨n, hn⟩ : ∃ n : Int, n = 4 := ⟨_, rfl⟩
  have HN := Lib.hid hn
  have hbk' : x % 2 = 0 → ∃ u v, turnR x n q = some u ∧ u % 2 = 0 ∧ 0 ≤ u ∧ turnR u n 3 = some v ∧ turnR v n 1 = some u := by rw [hn]; exact hbk
  rw [← hn] at ho ⊢
  clear hbk
  have HA := Lib.hid (fun w => alive15 w)
  have F := rfits_any n
  have hf : fits n.toNat = true := by have := ho; rw [isOf, Bool.and_eq_true] at this; exact this.1
  rw [hf] at F
  have hb := isOf_bd ho
  obtain ⟨x1, x2, n1, n2⟩ := hb
  have T2 := fun w => turn_any x n 2 w (by omega) (by omega) (by omega) (by omega)
  have T4 := fun w => turn_any x n 4 w (by omega) (by omega) (by omega) (by omega)
  rw [turn_two ho] at T2
  rw [turn_four ho] at T4
  have T2' : ∀ w, Calls Try.prog 47 #[.int .i64 x, .int .i64 n, .int .i64 2] w fun e w' => e = .returned (.tuple #[.int .i64 (2 * n - 2 - x), .bool true]) ∧ Below w.heap.size w w' := T2
  have T4' : ∀ w, Calls Try.prog 47 #[.int .i64 x, .int .i64 n, .int .i64 4] w fun e w' => e = .returned (.tuple #[.int .i64 x, .bool true]) ∧ Below w.heap.size w w' := T4
  have HF := Lib.hid F
  have HT2 := Lib.hid T2'
  have HT4 := Lib.hid T4'
  have q1 : ((2 * n - 2 - x) != (2 * n - 2 - x)) = false := by simp
  have q2 : (x != x) = false := by simp
  have TU := fun (x q : Int) w (h3 : -9223372036854775808 ≤ q) (h4 : q ≤ 9223372036854775807) => turn_any x n q w (by omega) (by omega) h3 h4
  have HTU := Lib.hid TU
  clear F T2 T4 T2' T4' ho hf hq TU
  have m0 : (n == 1) = false := by rw [beq_eq_false_iff_ne]; omega
  have m1 : (n == 4) = true := by rw [beq_iff_eq]; omega
  clear hn
  by_cases he : x % 2 = 0
  · obtain ⟨u, v, hu, hu2, hu0, hv, hw⟩ := hbk' he
    have TU := fun w => HTU.out x q w hqq.1 hqq.2
    have TV := fun w => HTU.out u 3 w (by omega) (by omega)
    have TW := fun w => HTU.out v 1 w (by omega) (by omega)
    rw [hu] at TU
    rw [hv] at TV
    rw [hw] at TW
    have TU' : ∀ w, Calls Try.prog 47 #[.int .i64 x, .int .i64 n, .int .i64 q] w fun e w' => e = .returned (.tuple #[.int .i64 u, .bool true]) ∧ Below w.heap.size w w' := TU
    have TV' : ∀ w, Calls Try.prog 47 #[.int .i64 u, .int .i64 n, .int .i64 3] w fun e w' => e = .returned (.tuple #[.int .i64 v, .bool true]) ∧ Below w.heap.size w w' := TV
    have TW' : ∀ w, Calls Try.prog 47 #[.int .i64 v, .int .i64 n, .int .i64 1] w fun e w' => e = .returned (.tuple #[.int .i64 u, .bool true]) ∧ Below w.heap.size w w' := TW
    have HU := Lib.hid TU'
    have HV := Lib.hid TV'
    have HW := Lib.hid TW'
    have e1 : (x % 2 == 1) = false := by rw [beq_eq_false_iff_ne]; omega
    have e2 : (u % 2 == 0) = true := by rw [beq_iff_eq]; exact hu2
    have e3 : (u == u) = true := by simp
    clear TU TV TW TU' TV' TW' hu hv hw hu2 he hbk' hqq
    go_enter Try.func13, Try.ntmps13
    go_wp2_with fail
    refine (HA.out _).mono ?_
    rintro e w1 ⟨rfl, hb1⟩
    have HB1 := Lib.hid hb1
    clear hb1
    go_wp2_with fail
    refine (HF.out _).mono ?_
    rintro e w' ⟨rfl, rfl⟩
    go_wp2_with fail
    refine (HT2.out _).mono ?_
    rintro e w2 ⟨rfl, hb2⟩
    have HB2 := Lib.hid (Below.next HB1.out hb2)
    clear hb2
    go_wp2_with fail
    refine (HT4.out _).mono ?_
    rintro e w3 ⟨rfl, hb3⟩
    have HB3 := Lib.hid (Below.next HB2.out hb3)
    clear hb3
    go_wp2_with fail
    refine (HU.out _).mono ?_
    rintro e w4 ⟨rfl, hb4⟩
    have HB4 := Lib.hid (Below.next HB3.out hb4)
    clear hb4
    go_wp2_with fail
    refine (HV.out _).mono ?_
    rintro e w5 ⟨rfl, hb5⟩
    have HB5 := Lib.hid (Below.next HB4.out hb5)
    clear hb5
    go_wp2_with fail
    refine (HW.out _).mono ?_
    rintro e w6 ⟨rfl, hb6⟩
    have HB6 := Lib.hid (Below.next HB5.out hb6)
    clear hb6
    go_wp2_with fail
    go_ret
    exact ⟨rfl, HB6.out⟩
  · have e1 : (x % 2 == 1) = true := by rw [beq_iff_eq]; omega
    clear hbk' he hqq
    go_enter Try.func13, Try.ntmps13
    go_wp2_with fail
    refine (HA.out _).mono ?_
    rintro e w1 ⟨rfl, hb1⟩
    have HB1 := Lib.hid hb1
    clear hb1
    go_wp2_with fail
    refine (HF.out _).mono ?_
    rintro e w' ⟨rfl, rfl⟩
    go_wp2_with fail
    refine (HT2.out _).mono ?_
    rintro e w2 ⟨rfl, hb2⟩
    have HB2 := Lib.hid (Below.next HB1.out hb2)
    clear hb2
    go_wp2_with fail
    refine (HT4.out _).mono ?_
    rintro e w3 ⟨rfl, hb3⟩
    have HB3 := Lib.hid (Below.next HB2.out hb3)
    clear hb3
    go_wp2_with fail
    go_ret
    exact ⟨rfl, HB3.out⟩
set_option maxRecDepth 100000 in
set_option maxHeartbeats 2000000 in
theorem half_16 (x q : Int) (hq : -9223372036854775808 ≤ q ∧ q ≤ 9223372036854775807) (ho : isOf x 16 = true) (w : World) :
    Calls Try.prog 13 #[.int .i64 x, .int .i64 16, .int .i64 q] w fun e w' => e = .returned (.bool true) ∧ Below w.heap.size w w' := by
  have hbk := fun (he : x % 2 = 0) => turns_back (k := 2) (by omega) rfl ho he q
  have hqq := hq
  obtain ⟨n, hn⟩ : ∃ n : Int, n = 16 := ⟨_, rfl⟩
  have HN := Lib.hid hn
  have hbk' : x % 2 = 0 → ∃ u v, turnR x n q = some u ∧ u % 2 = 0 ∧ 0 ≤ u ∧ turnR u n 3 = some v ∧ turnR v n 1 = some u := by rw [hn]; exact hbk
  rw [← hn] at ho ⊢
  clear hbk
  have HA := Lib.hid (fun w => alive15 w)
  have F := rfits_any n
  have hf : fits n.toNat = true := by have := ho; rw [isOf, Bool.and_eq_true] at this; exact this.1
  rw [hf] at F
  have hb := isOf_bd ho
  obtain ⟨x1, x2, n1, n2⟩ := hb
  have T2 := fun w => turn_any x n 2 w (by omega) (by omega) (by omega) (by omega)
  have T4 := fun w => turn_any x n 4 w (by omega) (by omega) (by omega) (by omega)
  rw [turn_two ho] at T2
  rw [turn_four ho] at T4
  have T2' : ∀ w, Calls Try.prog 47 #[.int .i64 x, .int .i64 n, .int .i64 2] w fun e w' => e = .returned (.tuple #[.int .i64 (2 * n - 2 - x), .bool true]) ∧ Below w.heap.size w w' := T2
  have T4' : ∀ w, Calls Try.prog 47 #[.int .i64 x, .int .i64 n, .int .i64 4] w fun e w' => e = .returned (.tuple #[.int .i64 x, .bool true]) ∧ Below w.heap.size w w' := T4
  have HF := Lib.hid F
  have HT2 := Lib.hid T2'
  have HT4 := Lib.hid T4'
  have q1 : ((2 * n - 2 - x) != (2 * n - 2 - x)) = false := by simp
  have q2 : (x != x) = false := by simp
  have TU := fun (x q : Int) w (h3 : -9223372036854775808 ≤ q) (h4 : q ≤ 9223372036854775807) => turn_any x n q w (by omega) (by omega) h3 h4
  have HTU := Lib.hid TU
  clear F T2 T4 T2' T4' ho hf hq TU
  have m0 : (n == 1) = false := by rw [beq_eq_false_iff_ne]; omega
  have m1 : (n == 4) = false := by rw [beq_eq_false_iff_ne]; omega
  have m2 : (n == 16) = true := by rw [beq_iff_eq]; omega
  clear hn
  by_cases he : x % 2 = 0
  · obtain ⟨u, v, hu, hu2, hu0, hv, hw⟩ := hbk' he
    have TU := fun w => HTU.out x q w hqq.1 hqq.2
    have TV := fun w => HTU.out u 3 w (by omega) (by omega)
    have TW := fun w => HTU.out v 1 w (by omega) (by omega)
    rw [hu] at TU
    rw [hv] at TV
    rw [hw] at TW
    have TU' : ∀ w, Calls Try.prog 47 #[.int .i64 x, .int .i64 n, .int .i64 q] w fun e w' => e = .returned (.tuple #[.int .i64 u, .bool true]) ∧ Below w.heap.size w w' := TU
    have TV' : ∀ w, Calls Try.prog 47 #[.int .i64 u, .int .i64 n, .int .i64 3] w fun e w' => e = .returned (.tuple #[.int .i64 v, .bool true]) ∧ Below w.heap.size w w' := TV
    have TW' : ∀ w, Calls Try.prog 47 #[.int .i64 v, .int .i64 n, .int .i64 1] w fun e w' => e = .returned (.tuple #[.int .i64 u, .bool true]) ∧ Below w.heap.size w w' := TW
    have HU := Lib.hid TU'
    have HV := Lib.hid TV'
    have HW := Lib.hid TW'
    have e1 : (x % 2 == 1) = false := by rw [beq_eq_false_iff_ne]; omega
    have e2 : (u % 2 == 0) = true := by rw [beq_iff_eq]; exact hu2
    have e3 : (u == u) = true := by simp
    clear TU TV TW TU' TV' TW' hu hv hw hu2 he hbk' hqq
    go_enter Try.func13, Try.ntmps13
    go_wp2_with fail
    refine (HA.out _).mono ?_
    rintro e w1 ⟨rfl, hb1⟩
    have HB1 := Lib.hid hb1
    clear hb1
    go_wp2_with fail
    refine (HF.out _).mono ?_
    rintro e w' ⟨rfl, rfl⟩
    go_wp2_with fail
    refine (HT2.out _).mono ?_
    rintro e w2 ⟨rfl, hb2⟩
    have HB2 := Lib.hid (Below.next HB1.out hb2)
    clear hb2
    go_wp2_with fail
    refine (HT4.out _).mono ?_
    rintro e w3 ⟨rfl, hb3⟩
    have HB3 := Lib.hid (Below.next HB2.out hb3)
    clear hb3
    go_wp2_with fail
    refine (HU.out _).mono ?_
    rintro e w4 ⟨rfl, hb4⟩
    have HB4 := Lib.hid (Below.next HB3.out hb4)
    clear hb4
    go_wp2_with fail
    refine (HV.out _).mono ?_
    rintro e w5 ⟨rfl, hb5⟩
    have HB5 := Lib.hid (Below.next HB4.out hb5)
    clear hb5
    go_wp2_with fail
    refine (HW.out _).mono ?_
    rintro e w6 ⟨rfl, hb6⟩
    have HB6 := Lib.hid (Below.next HB5.out hb6)
    clear hb6
    go_wp2_with fail
    go_ret
    exact ⟨rfl, HB6.out⟩
  · have e1 : (x % 2 == 1) = true := by rw [beq_iff_eq]; omega
    clear hbk' he hqq
    go_enter Try.func13, Try.ntmps13
    go_wp2_with fail
    refine (HA.out _).mono ?_
    rintro e w1 ⟨rfl, hb1⟩
    have HB1 := Lib.hid hb1
    clear hb1
    go_wp2_with fail
    refine (HF.out _).mono ?_
    rintro e w' ⟨rfl, rfl⟩
    go_wp2_with fail
    refine (HT2.out _).mono ?_
    rintro e w2 ⟨rfl, hb2⟩
    have HB2 := Lib.hid (Below.next HB1.out hb2)
    clear hb2
    go_wp2_with fail
    refine (HT4.out _).mono ?_
    rintro e w3 ⟨rfl, hb3⟩
    have HB3 := Lib.hid (Below.next HB2.out hb3)
    clear hb3
    go_wp2_with fail
    go_ret
    exact ⟨rfl, HB3.out⟩
set_option maxRecDepth 100000 in
set_option maxHeartbeats 2000000 in
theorem half_64 (x q : Int) (hq : -9223372036854775808 ≤ q ∧ q ≤ 9223372036854775807) (ho : isOf x 64 = true) (w : World) :
    Calls Try.prog 13 #[.int .i64 x, .int .i64 64, .int .i64 q] w fun e w' => e = .returned (.bool true) ∧ Below w.heap.size w w' := by
  have hbk := fun (he : x % 2 = 0) => turns_back (k := 3) (by omega) rfl ho he q
  have hqq := hq
  obtain ⟨n, hn⟩ : ∃ n : Int, n = 64 := ⟨_, rfl⟩
  have HN := Lib.hid hn
  have hbk' : x % 2 = 0 → ∃ u v, turnR x n q = some u ∧ u % 2 = 0 ∧ 0 ≤ u ∧ turnR u n 3 = some v ∧ turnR v n 1 = some u := by rw [hn]; exact hbk
  rw [← hn] at ho ⊢
  clear hbk
  have HA := Lib.hid (fun w => alive15 w)
  have F := rfits_any n
  have hf : fits n.toNat = true := by have := ho; rw [isOf, Bool.and_eq_true] at this; exact this.1
  rw [hf] at F
  have hb := isOf_bd ho
  obtain ⟨x1, x2, n1, n2⟩ := hb
  have T2 := fun w => turn_any x n 2 w (by omega) (by omega) (by omega) (by omega)
  have T4 := fun w => turn_any x n 4 w (by omega) (by omega) (by omega) (by omega)
  rw [turn_two ho] at T2
  rw [turn_four ho] at T4
  have T2' : ∀ w, Calls Try.prog 47 #[.int .i64 x, .int .i64 n, .int .i64 2] w fun e w' => e = .returned (.tuple #[.int .i64 (2 * n - 2 - x), .bool true]) ∧ Below w.heap.size w w' := T2
  have T4' : ∀ w, Calls Try.prog 47 #[.int .i64 x, .int .i64 n, .int .i64 4] w fun e w' => e = .returned (.tuple #[.int .i64 x, .bool true]) ∧ Below w.heap.size w w' := T4
  have HF := Lib.hid F
  have HT2 := Lib.hid T2'
  have HT4 := Lib.hid T4'
  have q1 : ((2 * n - 2 - x) != (2 * n - 2 - x)) = false := by simp
  have q2 : (x != x) = false := by simp
  have TU := fun (x q : Int) w (h3 : -9223372036854775808 ≤ q) (h4 : q ≤ 9223372036854775807) => turn_any x n q w (by omega) (by omega) h3 h4
  have HTU := Lib.hid TU
  clear F T2 T4 T2' T4' ho hf hq TU
  have m0 : (n == 1) = false := by rw [beq_eq_false_iff_ne]; omega
  have m1 : (n == 4) = false := by rw [beq_eq_false_iff_ne]; omega
  have m2 : (n == 16) = false := by rw [beq_eq_false_iff_ne]; omega
  have m3 : (n == 64) = true := by rw [beq_iff_eq]; omega
  clear hn
  by_cases he : x % 2 = 0
  · obtain ⟨u, v, hu, hu2, hu0, hv, hw⟩ := hbk' he
    have TU := fun w => HTU.out x q w hqq.1 hqq.2
    have TV := fun w => HTU.out u 3 w (by omega) (by omega)
    have TW := fun w => HTU.out v 1 w (by omega) (by omega)
    rw [hu] at TU
    rw [hv] at TV
    rw [hw] at TW
    have TU' : ∀ w, Calls Try.prog 47 #[.int .i64 x, .int .i64 n, .int .i64 q] w fun e w' => e = .returned (.tuple #[.int .i64 u, .bool true]) ∧ Below w.heap.size w w' := TU
    have TV' : ∀ w, Calls Try.prog 47 #[.int .i64 u, .int .i64 n, .int .i64 3] w fun e w' => e = .returned (.tuple #[.int .i64 v, .bool true]) ∧ Below w.heap.size w w' := TV
    have TW' : ∀ w, Calls Try.prog 47 #[.int .i64 v, .int .i64 n, .int .i64 1] w fun e w' => e = .returned (.tuple #[.int .i64 u, .bool true]) ∧ Below w.heap.size w w' := TW
    have HU := Lib.hid TU'
    have HV := Lib.hid TV'
    have HW := Lib.hid TW'
    have e1 : (x % 2 == 1) = false := by rw [beq_eq_false_iff_ne]; omega
    have e2 : (u % 2 == 0) = true := by rw [beq_iff_eq]; exact hu2
    have e3 : (u == u) = true := by simp
    clear TU TV TW TU' TV' TW' hu hv hw hu2 he hbk' hqq
    go_enter Try.func13, Try.ntmps13
    go_wp2_with fail
    refine (HA.out _).mono ?_
    rintro e w1 ⟨rfl, hb1⟩
    have HB1 := Lib.hid hb1
    clear hb1
    go_wp2_with fail
    refine (HF.out _).mono ?_
    rintro e w' ⟨rfl, rfl⟩
    go_wp2_with fail
    refine (HT2.out _).mono ?_
    rintro e w2 ⟨rfl, hb2⟩
    have HB2 := Lib.hid (Below.next HB1.out hb2)
    clear hb2
    go_wp2_with fail
    refine (HT4.out _).mono ?_
    rintro e w3 ⟨rfl, hb3⟩
    have HB3 := Lib.hid (Below.next HB2.out hb3)
    clear hb3
    go_wp2_with fail
    refine (HU.out _).mono ?_
    rintro e w4 ⟨rfl, hb4⟩
    have HB4 := Lib.hid (Below.next HB3.out hb4)
    clear hb4
    go_wp2_with fail
    refine (HV.out _).mono ?_
    rintro e w5 ⟨rfl, hb5⟩
    have HB5 := Lib.hid (Below.next HB4.out hb5)
    clear hb5
    go_wp2_with fail
    refine (HW.out _).mono ?_
    rintro e w6 ⟨rfl, hb6⟩
    have HB6 := Lib.hid (Below.next HB5.out hb6)
    clear hb6
    go_wp2_with fail
    go_ret
    exact ⟨rfl, HB6.out⟩
  · have e1 : (x % 2 == 1) = true := by rw [beq_iff_eq]; omega
    clear hbk' he hqq
    go_enter Try.func13, Try.ntmps13
    go_wp2_with fail
    refine (HA.out _).mono ?_
    rintro e w1 ⟨rfl, hb1⟩
    have HB1 := Lib.hid hb1
    clear hb1
    go_wp2_with fail
    refine (HF.out _).mono ?_
    rintro e w' ⟨rfl, rfl⟩
    go_wp2_with fail
    refine (HT2.out _).mono ?_
    rintro e w2 ⟨rfl, hb2⟩
    have HB2 := Lib.hid (Below.next HB1.out hb2)
    clear hb2
    go_wp2_with fail
    refine (HT4.out _).mono ?_
    rintro e w3 ⟨rfl, hb3⟩
    have HB3 := Lib.hid (Below.next HB2.out hb3)
    clear hb3
    go_wp2_with fail
    go_ret
    exact ⟨rfl, HB3.out⟩
set_option maxRecDepth 100000 in
set_option maxHeartbeats 2000000 in
theorem half_256 (x q : Int) (hq : -9223372036854775808 ≤ q ∧ q ≤ 9223372036854775807) (ho : isOf x 256 = true) (w : World) :
    Calls Try.prog 13 #[.int .i64 x, .int .i64 256, .int .i64 q] w fun e w' => e = .returned (.bool true) ∧ Below w.heap.size w w' := by
  have hbk := fun (he : x % 2 = 0) => turns_back (k := 4) (by omega) rfl ho he q
  have hqq := hq
  obtain ⟨n, hn⟩ : ∃ n : Int, n = 256 := ⟨_, rfl⟩
  have HN := Lib.hid hn
  have hbk' : x % 2 = 0 → ∃ u v, turnR x n q = some u ∧ u % 2 = 0 ∧ 0 ≤ u ∧ turnR u n 3 = some v ∧ turnR v n 1 = some u := by rw [hn]; exact hbk
  rw [← hn] at ho ⊢
  clear hbk
  have HA := Lib.hid (fun w => alive15 w)
  have F := rfits_any n
  have hf : fits n.toNat = true := by have := ho; rw [isOf, Bool.and_eq_true] at this; exact this.1
  rw [hf] at F
  have hb := isOf_bd ho
  obtain ⟨x1, x2, n1, n2⟩ := hb
  have T2 := fun w => turn_any x n 2 w (by omega) (by omega) (by omega) (by omega)
  have T4 := fun w => turn_any x n 4 w (by omega) (by omega) (by omega) (by omega)
  rw [turn_two ho] at T2
  rw [turn_four ho] at T4
  have T2' : ∀ w, Calls Try.prog 47 #[.int .i64 x, .int .i64 n, .int .i64 2] w fun e w' => e = .returned (.tuple #[.int .i64 (2 * n - 2 - x), .bool true]) ∧ Below w.heap.size w w' := T2
  have T4' : ∀ w, Calls Try.prog 47 #[.int .i64 x, .int .i64 n, .int .i64 4] w fun e w' => e = .returned (.tuple #[.int .i64 x, .bool true]) ∧ Below w.heap.size w w' := T4
  have HF := Lib.hid F
  have HT2 := Lib.hid T2'
  have HT4 := Lib.hid T4'
  have q1 : ((2 * n - 2 - x) != (2 * n - 2 - x)) = false := by simp
  have q2 : (x != x) = false := by simp
  have TU := fun (x q : Int) w (h3 : -9223372036854775808 ≤ q) (h4 : q ≤ 9223372036854775807) => turn_any x n q w (by omega) (by omega) h3 h4
  have HTU := Lib.hid TU
  clear F T2 T4 T2' T4' ho hf hq TU
  have m0 : (n == 1) = false := by rw [beq_eq_false_iff_ne]; omega
  have m1 : (n == 4) = false := by rw [beq_eq_false_iff_ne]; omega
  have m2 : (n == 16) = false := by rw [beq_eq_false_iff_ne]; omega
  have m3 : (n == 64) = false := by rw [beq_eq_false_iff_ne]; omega
  have m4 : (n == 256) = true := by rw [beq_iff_eq]; omega
  clear hn
  by_cases he : x % 2 = 0
  · obtain ⟨u, v, hu, hu2, hu0, hv, hw⟩ := hbk' he
    have TU := fun w => HTU.out x q w hqq.1 hqq.2
    have TV := fun w => HTU.out u 3 w (by omega) (by omega)
    have TW := fun w => HTU.out v 1 w (by omega) (by omega)
    rw [hu] at TU
    rw [hv] at TV
    rw [hw] at TW
    have TU' : ∀ w, Calls Try.prog 47 #[.int .i64 x, .int .i64 n, .int .i64 q] w fun e w' => e = .returned (.tuple #[.int .i64 u, .bool true]) ∧ Below w.heap.size w w' := TU
    have TV' : ∀ w, Calls Try.prog 47 #[.int .i64 u, .int .i64 n, .int .i64 3] w fun e w' => e = .returned (.tuple #[.int .i64 v, .bool true]) ∧ Below w.heap.size w w' := TV
    have TW' : ∀ w, Calls Try.prog 47 #[.int .i64 v, .int .i64 n, .int .i64 1] w fun e w' => e = .returned (.tuple #[.int .i64 u, .bool true]) ∧ Below w.heap.size w w' := TW
    have HU := Lib.hid TU'
    have HV := Lib.hid TV'
    have HW := Lib.hid TW'
    have e1 : (x % 2 == 1) = false := by rw [beq_eq_false_iff_ne]; omega
    have e2 : (u % 2 == 0) = true := by rw [beq_iff_eq]; exact hu2
    have e3 : (u == u) = true := by simp
    clear TU TV TW TU' TV' TW' hu hv hw hu2 he hbk' hqq
    go_enter Try.func13, Try.ntmps13
    go_wp2_with fail
    refine (HA.out _).mono ?_
    rintro e w1 ⟨rfl, hb1⟩
    have HB1 := Lib.hid hb1
    clear hb1
    go_wp2_with fail
    refine (HF.out _).mono ?_
    rintro e w' ⟨rfl, rfl⟩
    go_wp2_with fail
    refine (HT2.out _).mono ?_
    rintro e w2 ⟨rfl, hb2⟩
    have HB2 := Lib.hid (Below.next HB1.out hb2)
    clear hb2
    go_wp2_with fail
    refine (HT4.out _).mono ?_
    rintro e w3 ⟨rfl, hb3⟩
    have HB3 := Lib.hid (Below.next HB2.out hb3)
    clear hb3
    go_wp2_with fail
    refine (HU.out _).mono ?_
    rintro e w4 ⟨rfl, hb4⟩
    have HB4 := Lib.hid (Below.next HB3.out hb4)
    clear hb4
    go_wp2_with fail
    refine (HV.out _).mono ?_
    rintro e w5 ⟨rfl, hb5⟩
    have HB5 := Lib.hid (Below.next HB4.out hb5)
    clear hb5
    go_wp2_with fail
    refine (HW.out _).mono ?_
    rintro e w6 ⟨rfl, hb6⟩
    have HB6 := Lib.hid (Below.next HB5.out hb6)
    clear hb6
    go_wp2_with fail
    go_ret
    exact ⟨rfl, HB6.out⟩
  · have e1 : (x % 2 == 1) = true := by rw [beq_iff_eq]; omega
    clear hbk' he hqq
    go_enter Try.func13, Try.ntmps13
    go_wp2_with fail
    refine (HA.out _).mono ?_
    rintro e w1 ⟨rfl, hb1⟩
    have HB1 := Lib.hid hb1
    clear hb1
    go_wp2_with fail
    refine (HF.out _).mono ?_
    rintro e w' ⟨rfl, rfl⟩
    go_wp2_with fail
    refine (HT2.out _).mono ?_
    rintro e w2 ⟨rfl, hb2⟩
    have HB2 := Lib.hid (Below.next HB1.out hb2)
    clear hb2
    go_wp2_with fail
    refine (HT4.out _).mono ?_
    rintro e w3 ⟨rfl, hb3⟩
    have HB3 := Lib.hid (Below.next HB2.out hb3)
    clear hb3
    go_wp2_with fail
    go_ret
    exact ⟨rfl, HB3.out⟩
set_option maxRecDepth 100000 in
set_option maxHeartbeats 2000000 in
theorem half_1024 (x q : Int) (hq : -9223372036854775808 ≤ q ∧ q ≤ 9223372036854775807) (ho : isOf x 1024 = true) (w : World) :
    Calls Try.prog 13 #[.int .i64 x, .int .i64 1024, .int .i64 q] w fun e w' => e = .returned (.bool true) ∧ Below w.heap.size w w' := by
  have hbk := fun (he : x % 2 = 0) => turns_back (k := 5) (by omega) rfl ho he q
  have hqq := hq
  obtain ⟨n, hn⟩ : ∃ n : Int, n = 1024 := ⟨_, rfl⟩
  have HN := Lib.hid hn
  have hbk' : x % 2 = 0 → ∃ u v, turnR x n q = some u ∧ u % 2 = 0 ∧ 0 ≤ u ∧ turnR u n 3 = some v ∧ turnR v n 1 = some u := by rw [hn]; exact hbk
  rw [← hn] at ho ⊢
  clear hbk
  have HA := Lib.hid (fun w => alive15 w)
  have F := rfits_any n
  have hf : fits n.toNat = true := by have := ho; rw [isOf, Bool.and_eq_true] at this; exact this.1
  rw [hf] at F
  have hb := isOf_bd ho
  obtain ⟨x1, x2, n1, n2⟩ := hb
  have T2 := fun w => turn_any x n 2 w (by omega) (by omega) (by omega) (by omega)
  have T4 := fun w => turn_any x n 4 w (by omega) (by omega) (by omega) (by omega)
  rw [turn_two ho] at T2
  rw [turn_four ho] at T4
  have T2' : ∀ w, Calls Try.prog 47 #[.int .i64 x, .int .i64 n, .int .i64 2] w fun e w' => e = .returned (.tuple #[.int .i64 (2 * n - 2 - x), .bool true]) ∧ Below w.heap.size w w' := T2
  have T4' : ∀ w, Calls Try.prog 47 #[.int .i64 x, .int .i64 n, .int .i64 4] w fun e w' => e = .returned (.tuple #[.int .i64 x, .bool true]) ∧ Below w.heap.size w w' := T4
  have HF := Lib.hid F
  have HT2 := Lib.hid T2'
  have HT4 := Lib.hid T4'
  have q1 : ((2 * n - 2 - x) != (2 * n - 2 - x)) = false := by simp
  have q2 : (x != x) = false := by simp
  have TU := fun (x q : Int) w (h3 : -9223372036854775808 ≤ q) (h4 : q ≤ 9223372036854775807) => turn_any x n q w (by omega) (by omega) h3 h4
  have HTU := Lib.hid TU
  clear F T2 T4 T2' T4' ho hf hq TU
  have m0 : (n == 1) = false := by rw [beq_eq_false_iff_ne]; omega
  have m1 : (n == 4) = false := by rw [beq_eq_false_iff_ne]; omega
  have m2 : (n == 16) = false := by rw [beq_eq_false_iff_ne]; omega
  have m3 : (n == 64) = false := by rw [beq_eq_false_iff_ne]; omega
  have m4 : (n == 256) = false := by rw [beq_eq_false_iff_ne]; omega
  have m5 : (n == 1024) = true := by rw [beq_iff_eq]; omega
  clear hn
  by_cases he : x % 2 = 0
  · obtain ⟨u, v, hu, hu2, hu0, hv, hw⟩ := hbk' he
    have TU := fun w => HTU.out x q w hqq.1 hqq.2
    have TV := fun w => HTU.out u 3 w (by omega) (by omega)
    have TW := fun w => HTU.out v 1 w (by omega) (by omega)
    rw [hu] at TU
    rw [hv] at TV
    rw [hw] at TW
    have TU' : ∀ w, Calls Try.prog 47 #[.int .i64 x, .int .i64 n, .int .i64 q] w fun e w' => e = .returned (.tuple #[.int .i64 u, .bool true]) ∧ Below w.heap.size w w' := TU
    have TV' : ∀ w, Calls Try.prog 47 #[.int .i64 u, .int .i64 n, .int .i64 3] w fun e w' => e = .returned (.tuple #[.int .i64 v, .bool true]) ∧ Below w.heap.size w w' := TV
    have TW' : ∀ w, Calls Try.prog 47 #[.int .i64 v, .int .i64 n, .int .i64 1] w fun e w' => e = .returned (.tuple #[.int .i64 u, .bool true]) ∧ Below w.heap.size w w' := TW
    have HU := Lib.hid TU'
    have HV := Lib.hid TV'
    have HW := Lib.hid TW'
    have e1 : (x % 2 == 1) = false := by rw [beq_eq_false_iff_ne]; omega
    have e2 : (u % 2 == 0) = true := by rw [beq_iff_eq]; exact hu2
    have e3 : (u == u) = true := by simp
    clear TU TV TW TU' TV' TW' hu hv hw hu2 he hbk' hqq
    go_enter Try.func13, Try.ntmps13
    go_wp2_with fail
    refine (HA.out _).mono ?_
    rintro e w1 ⟨rfl, hb1⟩
    have HB1 := Lib.hid hb1
    clear hb1
    go_wp2_with fail
    refine (HF.out _).mono ?_
    rintro e w' ⟨rfl, rfl⟩
    go_wp2_with fail
    refine (HT2.out _).mono ?_
    rintro e w2 ⟨rfl, hb2⟩
    have HB2 := Lib.hid (Below.next HB1.out hb2)
    clear hb2
    go_wp2_with fail
    refine (HT4.out _).mono ?_
    rintro e w3 ⟨rfl, hb3⟩
    have HB3 := Lib.hid (Below.next HB2.out hb3)
    clear hb3
    go_wp2_with fail
    refine (HU.out _).mono ?_
    rintro e w4 ⟨rfl, hb4⟩
    have HB4 := Lib.hid (Below.next HB3.out hb4)
    clear hb4
    go_wp2_with fail
    refine (HV.out _).mono ?_
    rintro e w5 ⟨rfl, hb5⟩
    have HB5 := Lib.hid (Below.next HB4.out hb5)
    clear hb5
    go_wp2_with fail
    refine (HW.out _).mono ?_
    rintro e w6 ⟨rfl, hb6⟩
    have HB6 := Lib.hid (Below.next HB5.out hb6)
    clear hb6
    go_wp2_with fail
    go_ret
    exact ⟨rfl, HB6.out⟩
  · have e1 : (x % 2 == 1) = true := by rw [beq_iff_eq]; omega
    clear hbk' he hqq
    go_enter Try.func13, Try.ntmps13
    go_wp2_with fail
    refine (HA.out _).mono ?_
    rintro e w1 ⟨rfl, hb1⟩
    have HB1 := Lib.hid hb1
    clear hb1
    go_wp2_with fail
    refine (HF.out _).mono ?_
    rintro e w' ⟨rfl, rfl⟩
    go_wp2_with fail
    refine (HT2.out _).mono ?_
    rintro e w2 ⟨rfl, hb2⟩
    have HB2 := Lib.hid (Below.next HB1.out hb2)
    clear hb2
    go_wp2_with fail
    refine (HT4.out _).mono ?_
    rintro e w3 ⟨rfl, hb3⟩
    have HB3 := Lib.hid (Below.next HB2.out hb3)
    clear hb3
    go_wp2_with fail
    go_ret
    exact ⟨rfl, HB3.out⟩
set_option maxRecDepth 100000 in
set_option maxHeartbeats 2000000 in
theorem half_4096 (x q : Int) (hq : -9223372036854775808 ≤ q ∧ q ≤ 9223372036854775807) (ho : isOf x 4096 = true) (w : World) :
    Calls Try.prog 13 #[.int .i64 x, .int .i64 4096, .int .i64 q] w fun e w' => e = .returned (.bool true) ∧ Below w.heap.size w w' := by
  have hbk := fun (he : x % 2 = 0) => turns_back (k := 6) (by omega) rfl ho he q
  have hqq := hq
  obtain ⟨n, hn⟩ : ∃ n : Int, n = 4096 := ⟨_, rfl⟩
  have HN := Lib.hid hn
  have hbk' : x % 2 = 0 → ∃ u v, turnR x n q = some u ∧ u % 2 = 0 ∧ 0 ≤ u ∧ turnR u n 3 = some v ∧ turnR v n 1 = some u := by rw [hn]; exact hbk
  rw [← hn] at ho ⊢
  clear hbk
  have HA := Lib.hid (fun w => alive15 w)
  have F := rfits_any n
  have hf : fits n.toNat = true := by have := ho; rw [isOf, Bool.and_eq_true] at this; exact this.1
  rw [hf] at F
  have hb := isOf_bd ho
  obtain ⟨x1, x2, n1, n2⟩ := hb
  have T2 := fun w => turn_any x n 2 w (by omega) (by omega) (by omega) (by omega)
  have T4 := fun w => turn_any x n 4 w (by omega) (by omega) (by omega) (by omega)
  rw [turn_two ho] at T2
  rw [turn_four ho] at T4
  have T2' : ∀ w, Calls Try.prog 47 #[.int .i64 x, .int .i64 n, .int .i64 2] w fun e w' => e = .returned (.tuple #[.int .i64 (2 * n - 2 - x), .bool true]) ∧ Below w.heap.size w w' := T2
  have T4' : ∀ w, Calls Try.prog 47 #[.int .i64 x, .int .i64 n, .int .i64 4] w fun e w' => e = .returned (.tuple #[.int .i64 x, .bool true]) ∧ Below w.heap.size w w' := T4
  have HF := Lib.hid F
  have HT2 := Lib.hid T2'
  have HT4 := Lib.hid T4'
  have q1 : ((2 * n - 2 - x) != (2 * n - 2 - x)) = false := by simp
  have q2 : (x != x) = false := by simp
  have TU := fun (x q : Int) w (h3 : -9223372036854775808 ≤ q) (h4 : q ≤ 9223372036854775807) => turn_any x n q w (by omega) (by omega) h3 h4
  have HTU := Lib.hid TU
  clear F T2 T4 T2' T4' ho hf hq TU
  have m0 : (n == 1) = false := by rw [beq_eq_false_iff_ne]; omega
  have m1 : (n == 4) = false := by rw [beq_eq_false_iff_ne]; omega
  have m2 : (n == 16) = false := by rw [beq_eq_false_iff_ne]; omega
  have m3 : (n == 64) = false := by rw [beq_eq_false_iff_ne]; omega
  have m4 : (n == 256) = false := by rw [beq_eq_false_iff_ne]; omega
  have m5 : (n == 1024) = false := by rw [beq_eq_false_iff_ne]; omega
  have m6 : (n == 4096) = true := by rw [beq_iff_eq]; omega
  clear hn
  by_cases he : x % 2 = 0
  · obtain ⟨u, v, hu, hu2, hu0, hv, hw⟩ := hbk' he
    have TU := fun w => HTU.out x q w hqq.1 hqq.2
    have TV := fun w => HTU.out u 3 w (by omega) (by omega)
    have TW := fun w => HTU.out v 1 w (by omega) (by omega)
    rw [hu] at TU
    rw [hv] at TV
    rw [hw] at TW
    have TU' : ∀ w, Calls Try.prog 47 #[.int .i64 x, .int .i64 n, .int .i64 q] w fun e w' => e = .returned (.tuple #[.int .i64 u, .bool true]) ∧ Below w.heap.size w w' := TU
    have TV' : ∀ w, Calls Try.prog 47 #[.int .i64 u, .int .i64 n, .int .i64 3] w fun e w' => e = .returned (.tuple #[.int .i64 v, .bool true]) ∧ Below w.heap.size w w' := TV
    have TW' : ∀ w, Calls Try.prog 47 #[.int .i64 v, .int .i64 n, .int .i64 1] w fun e w' => e = .returned (.tuple #[.int .i64 u, .bool true]) ∧ Below w.heap.size w w' := TW
    have HU := Lib.hid TU'
    have HV := Lib.hid TV'
    have HW := Lib.hid TW'
    have e1 : (x % 2 == 1) = false := by rw [beq_eq_false_iff_ne]; omega
    have e2 : (u % 2 == 0) = true := by rw [beq_iff_eq]; exact hu2
    have e3 : (u == u) = true := by simp
    clear TU TV TW TU' TV' TW' hu hv hw hu2 he hbk' hqq
    go_enter Try.func13, Try.ntmps13
    go_wp2_with fail
    refine (HA.out _).mono ?_
    rintro e w1 ⟨rfl, hb1⟩
    have HB1 := Lib.hid hb1
    clear hb1
    go_wp2_with fail
    refine (HF.out _).mono ?_
    rintro e w' ⟨rfl, rfl⟩
    go_wp2_with fail
    refine (HT2.out _).mono ?_
    rintro e w2 ⟨rfl, hb2⟩
    have HB2 := Lib.hid (Below.next HB1.out hb2)
    clear hb2
    go_wp2_with fail
    refine (HT4.out _).mono ?_
    rintro e w3 ⟨rfl, hb3⟩
    have HB3 := Lib.hid (Below.next HB2.out hb3)
    clear hb3
    go_wp2_with fail
    refine (HU.out _).mono ?_
    rintro e w4 ⟨rfl, hb4⟩
    have HB4 := Lib.hid (Below.next HB3.out hb4)
    clear hb4
    go_wp2_with fail
    refine (HV.out _).mono ?_
    rintro e w5 ⟨rfl, hb5⟩
    have HB5 := Lib.hid (Below.next HB4.out hb5)
    clear hb5
    go_wp2_with fail
    refine (HW.out _).mono ?_
    rintro e w6 ⟨rfl, hb6⟩
    have HB6 := Lib.hid (Below.next HB5.out hb6)
    clear hb6
    go_wp2_with fail
    go_ret
    exact ⟨rfl, HB6.out⟩
  · have e1 : (x % 2 == 1) = true := by rw [beq_iff_eq]; omega
    clear hbk' he hqq
    go_enter Try.func13, Try.ntmps13
    go_wp2_with fail
    refine (HA.out _).mono ?_
    rintro e w1 ⟨rfl, hb1⟩
    have HB1 := Lib.hid hb1
    clear hb1
    go_wp2_with fail
    refine (HF.out _).mono ?_
    rintro e w' ⟨rfl, rfl⟩
    go_wp2_with fail
    refine (HT2.out _).mono ?_
    rintro e w2 ⟨rfl, hb2⟩
    have HB2 := Lib.hid (Below.next HB1.out hb2)
    clear hb2
    go_wp2_with fail
    refine (HT4.out _).mono ?_
    rintro e w3 ⟨rfl, hb3⟩
    have HB3 := Lib.hid (Below.next HB2.out hb3)
    clear hb3
    go_wp2_with fail
    go_ret
    exact ⟨rfl, HB3.out⟩
set_option maxRecDepth 100000 in
set_option maxHeartbeats 2000000 in
theorem half_16384 (x q : Int) (hq : -9223372036854775808 ≤ q ∧ q ≤ 9223372036854775807) (ho : isOf x 16384 = true) (w : World) :
    Calls Try.prog 13 #[.int .i64 x, .int .i64 16384, .int .i64 q] w fun e w' => e = .returned (.bool true) ∧ Below w.heap.size w w' := by
  have hbk := fun (he : x % 2 = 0) => turns_back (k := 7) (by omega) rfl ho he q
  have hqq := hq
  obtain ⟨n, hn⟩ : ∃ n : Int, n = 16384 := ⟨_, rfl⟩
  have HN := Lib.hid hn
  have hbk' : x % 2 = 0 → ∃ u v, turnR x n q = some u ∧ u % 2 = 0 ∧ 0 ≤ u ∧ turnR u n 3 = some v ∧ turnR v n 1 = some u := by rw [hn]; exact hbk
  rw [← hn] at ho ⊢
  clear hbk
  have HA := Lib.hid (fun w => alive15 w)
  have F := rfits_any n
  have hf : fits n.toNat = true := by have := ho; rw [isOf, Bool.and_eq_true] at this; exact this.1
  rw [hf] at F
  have hb := isOf_bd ho
  obtain ⟨x1, x2, n1, n2⟩ := hb
  have T2 := fun w => turn_any x n 2 w (by omega) (by omega) (by omega) (by omega)
  have T4 := fun w => turn_any x n 4 w (by omega) (by omega) (by omega) (by omega)
  rw [turn_two ho] at T2
  rw [turn_four ho] at T4
  have T2' : ∀ w, Calls Try.prog 47 #[.int .i64 x, .int .i64 n, .int .i64 2] w fun e w' => e = .returned (.tuple #[.int .i64 (2 * n - 2 - x), .bool true]) ∧ Below w.heap.size w w' := T2
  have T4' : ∀ w, Calls Try.prog 47 #[.int .i64 x, .int .i64 n, .int .i64 4] w fun e w' => e = .returned (.tuple #[.int .i64 x, .bool true]) ∧ Below w.heap.size w w' := T4
  have HF := Lib.hid F
  have HT2 := Lib.hid T2'
  have HT4 := Lib.hid T4'
  have q1 : ((2 * n - 2 - x) != (2 * n - 2 - x)) = false := by simp
  have q2 : (x != x) = false := by simp
  have TU := fun (x q : Int) w (h3 : -9223372036854775808 ≤ q) (h4 : q ≤ 9223372036854775807) => turn_any x n q w (by omega) (by omega) h3 h4
  have HTU := Lib.hid TU
  clear F T2 T4 T2' T4' ho hf hq TU
  have m0 : (n == 1) = false := by rw [beq_eq_false_iff_ne]; omega
  have m1 : (n == 4) = false := by rw [beq_eq_false_iff_ne]; omega
  have m2 : (n == 16) = false := by rw [beq_eq_false_iff_ne]; omega
  have m3 : (n == 64) = false := by rw [beq_eq_false_iff_ne]; omega
  have m4 : (n == 256) = false := by rw [beq_eq_false_iff_ne]; omega
  have m5 : (n == 1024) = false := by rw [beq_eq_false_iff_ne]; omega
  have m6 : (n == 4096) = false := by rw [beq_eq_false_iff_ne]; omega
  have m7 : (n == 16384) = true := by rw [beq_iff_eq]; omega
  clear hn
  by_cases he : x % 2 = 0
  · obtain ⟨u, v, hu, hu2, hu0, hv, hw⟩ := hbk' he
    have TU := fun w => HTU.out x q w hqq.1 hqq.2
    have TV := fun w => HTU.out u 3 w (by omega) (by omega)
    have TW := fun w => HTU.out v 1 w (by omega) (by omega)
    rw [hu] at TU
    rw [hv] at TV
    rw [hw] at TW
    have TU' : ∀ w, Calls Try.prog 47 #[.int .i64 x, .int .i64 n, .int .i64 q] w fun e w' => e = .returned (.tuple #[.int .i64 u, .bool true]) ∧ Below w.heap.size w w' := TU
    have TV' : ∀ w, Calls Try.prog 47 #[.int .i64 u, .int .i64 n, .int .i64 3] w fun e w' => e = .returned (.tuple #[.int .i64 v, .bool true]) ∧ Below w.heap.size w w' := TV
    have TW' : ∀ w, Calls Try.prog 47 #[.int .i64 v, .int .i64 n, .int .i64 1] w fun e w' => e = .returned (.tuple #[.int .i64 u, .bool true]) ∧ Below w.heap.size w w' := TW
    have HU := Lib.hid TU'
    have HV := Lib.hid TV'
    have HW := Lib.hid TW'
    have e1 : (x % 2 == 1) = false := by rw [beq_eq_false_iff_ne]; omega
    have e2 : (u % 2 == 0) = true := by rw [beq_iff_eq]; exact hu2
    have e3 : (u == u) = true := by simp
    clear TU TV TW TU' TV' TW' hu hv hw hu2 he hbk' hqq
    go_enter Try.func13, Try.ntmps13
    go_wp2_with fail
    refine (HA.out _).mono ?_
    rintro e w1 ⟨rfl, hb1⟩
    have HB1 := Lib.hid hb1
    clear hb1
    go_wp2_with fail
    refine (HF.out _).mono ?_
    rintro e w' ⟨rfl, rfl⟩
    go_wp2_with fail
    refine (HT2.out _).mono ?_
    rintro e w2 ⟨rfl, hb2⟩
    have HB2 := Lib.hid (Below.next HB1.out hb2)
    clear hb2
    go_wp2_with fail
    refine (HT4.out _).mono ?_
    rintro e w3 ⟨rfl, hb3⟩
    have HB3 := Lib.hid (Below.next HB2.out hb3)
    clear hb3
    go_wp2_with fail
    refine (HU.out _).mono ?_
    rintro e w4 ⟨rfl, hb4⟩
    have HB4 := Lib.hid (Below.next HB3.out hb4)
    clear hb4
    go_wp2_with fail
    refine (HV.out _).mono ?_
    rintro e w5 ⟨rfl, hb5⟩
    have HB5 := Lib.hid (Below.next HB4.out hb5)
    clear hb5
    go_wp2_with fail
    refine (HW.out _).mono ?_
    rintro e w6 ⟨rfl, hb6⟩
    have HB6 := Lib.hid (Below.next HB5.out hb6)
    clear hb6
    go_wp2_with fail
    go_ret
    exact ⟨rfl, HB6.out⟩
  · have e1 : (x % 2 == 1) = true := by rw [beq_iff_eq]; omega
    clear hbk' he hqq
    go_enter Try.func13, Try.ntmps13
    go_wp2_with fail
    refine (HA.out _).mono ?_
    rintro e w1 ⟨rfl, hb1⟩
    have HB1 := Lib.hid hb1
    clear hb1
    go_wp2_with fail
    refine (HF.out _).mono ?_
    rintro e w' ⟨rfl, rfl⟩
    go_wp2_with fail
    refine (HT2.out _).mono ?_
    rintro e w2 ⟨rfl, hb2⟩
    have HB2 := Lib.hid (Below.next HB1.out hb2)
    clear hb2
    go_wp2_with fail
    refine (HT4.out _).mono ?_
    rintro e w3 ⟨rfl, hb3⟩
    have HB3 := Lib.hid (Below.next HB2.out hb3)
    clear hb3
    go_wp2_with fail
    go_ret
    exact ⟨rfl, HB3.out⟩
set_option maxRecDepth 100000 in
set_option maxHeartbeats 2000000 in
theorem half_65536 (x q : Int) (hq : -9223372036854775808 ≤ q ∧ q ≤ 9223372036854775807) (ho : isOf x 65536 = true) (w : World) :
    Calls Try.prog 13 #[.int .i64 x, .int .i64 65536, .int .i64 q] w fun e w' => e = .returned (.bool true) ∧ Below w.heap.size w w' := by
  have hbk := fun (he : x % 2 = 0) => turns_back (k := 8) (by omega) rfl ho he q
  have hqq := hq
  obtain ⟨n, hn⟩ : ∃ n : Int, n = 65536 := ⟨_, rfl⟩
  have HN := Lib.hid hn
  have hbk' : x % 2 = 0 → ∃ u v, turnR x n q = some u ∧ u % 2 = 0 ∧ 0 ≤ u ∧ turnR u n 3 = some v ∧ turnR v n 1 = some u := by rw [hn]; exact hbk
  rw [← hn] at ho ⊢
  clear hbk
  have HA := Lib.hid (fun w => alive15 w)
  have F := rfits_any n
  have hf : fits n.toNat = true := by have := ho; rw [isOf, Bool.and_eq_true] at this; exact this.1
  rw [hf] at F
  have hb := isOf_bd ho
  obtain ⟨x1, x2, n1, n2⟩ := hb
  have T2 := fun w => turn_any x n 2 w (by omega) (by omega) (by omega) (by omega)
  have T4 := fun w => turn_any x n 4 w (by omega) (by omega) (by omega) (by omega)
  rw [turn_two ho] at T2
  rw [turn_four ho] at T4
  have T2' : ∀ w, Calls Try.prog 47 #[.int .i64 x, .int .i64 n, .int .i64 2] w fun e w' => e = .returned (.tuple #[.int .i64 (2 * n - 2 - x), .bool true]) ∧ Below w.heap.size w w' := T2
  have T4' : ∀ w, Calls Try.prog 47 #[.int .i64 x, .int .i64 n, .int .i64 4] w fun e w' => e = .returned (.tuple #[.int .i64 x, .bool true]) ∧ Below w.heap.size w w' := T4
  have HF := Lib.hid F
  have HT2 := Lib.hid T2'
  have HT4 := Lib.hid T4'
  have q1 : ((2 * n - 2 - x) != (2 * n - 2 - x)) = false := by simp
  have q2 : (x != x) = false := by simp
  have TU := fun (x q : Int) w (h3 : -9223372036854775808 ≤ q) (h4 : q ≤ 9223372036854775807) => turn_any x n q w (by omega) (by omega) h3 h4
  have HTU := Lib.hid TU
  clear F T2 T4 T2' T4' ho hf hq TU
  have m0 : (n == 1) = false := by rw [beq_eq_false_iff_ne]; omega
  have m1 : (n == 4) = false := by rw [beq_eq_false_iff_ne]; omega
  have m2 : (n == 16) = false := by rw [beq_eq_false_iff_ne]; omega
  have m3 : (n == 64) = false := by rw [beq_eq_false_iff_ne]; omega
  have m4 : (n == 256) = false := by rw [beq_eq_false_iff_ne]; omega
  have m5 : (n == 1024) = false := by rw [beq_eq_false_iff_ne]; omega
  have m6 : (n == 4096) = false := by rw [beq_eq_false_iff_ne]; omega
  have m7 : (n == 16384) = false := by rw [beq_eq_false_iff_ne]; omega
  have m8 : (n == 65536) = true := by rw [beq_iff_eq]; omega
  clear hn
  by_cases he : x % 2 = 0
  · obtain ⟨u, v, hu, hu2, hu0, hv, hw⟩ := hbk' he
    have TU := fun w => HTU.out x q w hqq.1 hqq.2
    have TV := fun w => HTU.out u 3 w (by omega) (by omega)
    have TW := fun w => HTU.out v 1 w (by omega) (by omega)
    rw [hu] at TU
    rw [hv] at TV
    rw [hw] at TW
    have TU' : ∀ w, Calls Try.prog 47 #[.int .i64 x, .int .i64 n, .int .i64 q] w fun e w' => e = .returned (.tuple #[.int .i64 u, .bool true]) ∧ Below w.heap.size w w' := TU
    have TV' : ∀ w, Calls Try.prog 47 #[.int .i64 u, .int .i64 n, .int .i64 3] w fun e w' => e = .returned (.tuple #[.int .i64 v, .bool true]) ∧ Below w.heap.size w w' := TV
    have TW' : ∀ w, Calls Try.prog 47 #[.int .i64 v, .int .i64 n, .int .i64 1] w fun e w' => e = .returned (.tuple #[.int .i64 u, .bool true]) ∧ Below w.heap.size w w' := TW
    have HU := Lib.hid TU'
    have HV := Lib.hid TV'
    have HW := Lib.hid TW'
    have e1 : (x % 2 == 1) = false := by rw [beq_eq_false_iff_ne]; omega
    have e2 : (u % 2 == 0) = true := by rw [beq_iff_eq]; exact hu2
    have e3 : (u == u) = true := by simp
    clear TU TV TW TU' TV' TW' hu hv hw hu2 he hbk' hqq
    go_enter Try.func13, Try.ntmps13
    go_wp2_with fail
    refine (HA.out _).mono ?_
    rintro e w1 ⟨rfl, hb1⟩
    have HB1 := Lib.hid hb1
    clear hb1
    go_wp2_with fail
    refine (HF.out _).mono ?_
    rintro e w' ⟨rfl, rfl⟩
    go_wp2_with fail
    refine (HT2.out _).mono ?_
    rintro e w2 ⟨rfl, hb2⟩
    have HB2 := Lib.hid (Below.next HB1.out hb2)
    clear hb2
    go_wp2_with fail
    refine (HT4.out _).mono ?_
    rintro e w3 ⟨rfl, hb3⟩
    have HB3 := Lib.hid (Below.next HB2.out hb3)
    clear hb3
    go_wp2_with fail
    refine (HU.out _).mono ?_
    rintro e w4 ⟨rfl, hb4⟩
    have HB4 := Lib.hid (Below.next HB3.out hb4)
    clear hb4
    go_wp2_with fail
    refine (HV.out _).mono ?_
    rintro e w5 ⟨rfl, hb5⟩
    have HB5 := Lib.hid (Below.next HB4.out hb5)
    clear hb5
    go_wp2_with fail
    refine (HW.out _).mono ?_
    rintro e w6 ⟨rfl, hb6⟩
    have HB6 := Lib.hid (Below.next HB5.out hb6)
    clear hb6
    go_wp2_with fail
    go_ret
    exact ⟨rfl, HB6.out⟩
  · have e1 : (x % 2 == 1) = true := by rw [beq_iff_eq]; omega
    clear hbk' he hqq
    go_enter Try.func13, Try.ntmps13
    go_wp2_with fail
    refine (HA.out _).mono ?_
    rintro e w1 ⟨rfl, hb1⟩
    have HB1 := Lib.hid hb1
    clear hb1
    go_wp2_with fail
    refine (HF.out _).mono ?_
    rintro e w' ⟨rfl, rfl⟩
    go_wp2_with fail
    refine (HT2.out _).mono ?_
    rintro e w2 ⟨rfl, hb2⟩
    have HB2 := Lib.hid (Below.next HB1.out hb2)
    clear hb2
    go_wp2_with fail
    refine (HT4.out _).mono ?_
    rintro e w3 ⟨rfl, hb3⟩
    have HB3 := Lib.hid (Below.next HB2.out hb3)
    clear hb3
    go_wp2_with fail
    go_ret
    exact ⟨rfl, HB3.out⟩
theorem planHalf_walk (x n q : Int) (hx : -9223372036854775808 ≤ x ∧ x ≤ 9223372036854775807) (hn : -9223372036854775808 ≤ n ∧ n ≤ 9223372036854775807) (hq : -9223372036854775808 ≤ q ∧ q ≤ 9223372036854775807) (w : World) :
    Calls Try.prog 13 #[.int .i64 x, .int .i64 n, .int .i64 q] w fun e w' => e = .returned (.bool true) ∧ Below w.heap.size w w' := by
  by_cases ho : isOf x n = true
  · by_cases h0 : n = 1
    · subst h0; exact half_1 x q hq ho w
    · by_cases h1 : n = 4
      · subst h1; exact half_4 x q hq ho w
      · by_cases h2 : n = 16
        · subst h2; exact half_16 x q hq ho w
        · by_cases h3 : n = 64
          · subst h3; exact half_64 x q hq ho w
          · by_cases h4 : n = 256
            · subst h4; exact half_256 x q hq ho w
            · by_cases h5 : n = 1024
              · subst h5; exact half_1024 x q hq ho w
              · by_cases h6 : n = 4096
                · subst h6; exact half_4096 x q hq ho w
                · by_cases h7 : n = 16384
                  · subst h7; exact half_16384 x q hq ho w
                  · by_cases h8 : n = 65536
                    · subst h8; exact half_65536 x q hq ho w
                    · exact half_no x n q hq ho (beq_eq_false_iff_ne.2 h0) (beq_eq_false_iff_ne.2 h1) (beq_eq_false_iff_ne.2 h2) (beq_eq_false_iff_ne.2 h3) (beq_eq_false_iff_ne.2 h4) (beq_eq_false_iff_ne.2 h5) (beq_eq_false_iff_ne.2 h6) (beq_eq_false_iff_ne.2 h7) (beq_eq_false_iff_ne.2 h8) w
  · exact half_off x n q hx hn (by rw [← Bool.not_eq_true]; exact ho) w
end Go.Proofs.Ytbjfacfphgnhpaa
