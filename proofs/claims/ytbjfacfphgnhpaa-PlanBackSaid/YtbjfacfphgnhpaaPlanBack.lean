/- Walks: PlanBack. -/
import Derived.Test.YtbjfacfphgnhpaaPlanRAt
import Derived.Test.YtbjfacfphgnhpaaPlanFarMath
namespace Go.Proofs.Ytbjfacfphgnhpaa
open Go.RowKit WalkM FloatM
set_option linter.unusedVariables false
theorem sq_zero {a : Int} (h : a * a = 0) : a = 0 := by
  rcases Int.mul_eq_zero.1 h with h | h <;> exact h
theorem gap_zero {x y n : Int} (hx : isOf x n = true) (hy : isOf y n = true) : gapZ x y n = 0 ↔ x = y := by
  rw [gapZ, if_pos ⟨hx, hy⟩]
  constructor
  · intro h
    have a := sq_nonneg (plX x n - plX y n)
    have b := sq_nonneg (plY x n - plY y n)
    have c := sq_zero (a := plX x n - plX y n) (by omega)
    have d := sq_zero (a := plY x n - plY y n) (by omega)
    exact place_inj hx hy (by omega) (by omega)
  · rintro rfl
    simp
set_option maxRecDepth 100000 in
set_option maxHeartbeats 4000000 in
theorem planBack_walk (x y n : Int) (hx : -9223372036854775808 ≤ x ∧ x ≤ 9223372036854775807) (hy : -9223372036854775808 ≤ y ∧ y ≤ 9223372036854775807) (hn : -9223372036854775808 ≤ n ∧ n ≤ 9223372036854775807) (w : World) :
    Calls Try.prog 12 #[.int .i64 x, .int .i64 y, .int .i64 n] w fun e w' => e = .returned (.bool true) ∧ Below w.heap.size w w' := by
  have HA := Lib.hid (fun w => alive15 w)
  have P := fun w => place_any x n w hn.1 hn.2
  have P2 := fun w => place_any y n w hn.1 hn.2
  have G := fun w => gap_any x y n w hn.1 hn.2
  have F := rfits_any n
  unfold PlaceP at P P2
  unfold GapP at G
  by_cases hf : fits n.toNat = true
  · have hs := fits_small hf
    have hn1 : 1 ≤ n := by omega
    have hn2 : n ≤ 65536 := by omega
    rw [hf] at F
    have HF := Lib.hid F
    by_cases hxo : 0 ≤ x ∧ x ≤ 2 * n - 2
    · have ho : isOf x n = true := by rw [isOf, hf, Bool.true_and, decide_eq_true hxo]
      obtain ⟨x1, x2⟩ := hxo
      rw [ho] at P G
      by_cases hyo : isOf y n = true
      · have hin := @place_inj x y n ho hyo
        have hg := gap_zero ho hyo
        have hAt := at_found ho
        have hbd := pl_bd x n
        have AT : ∀ (re im : Nat), IsF re (plX x n) → IsF im (plY x n) → ∀ w : World, Calls Try.prog 50 #[.complex .f64 re im, .int .i64 n] w (fun e w' => e = .returned (.tuple #[.int .i64 x, .bool true]) ∧ w = w') := by
          intro re im hre him w
          obtain ⟨d, hd, rfl⟩ := fits_out hf
          have := pat_on d re im _ _ hd hre him (by omega) (by omega) w
          rw [hAt] at this
          exact this
        rw [hyo] at P2 G
        obtain ⟨X, hX⟩ : ∃ b, b = plX x n := ⟨_, rfl⟩
        obtain ⟨Y, hY⟩ : ∃ b, b = plY x n := ⟨_, rfl⟩
        obtain ⟨U, hU⟩ : ∃ b, b = plX y n := ⟨_, rfl⟩
        obtain ⟨V, hV⟩ : ∃ b, b = plY y n := ⟨_, rfl⟩
        have hXU : x = y → X = U ∧ Y = V := by rintro rfl; exact ⟨by rw [hX, hU], by rw [hY, hV]⟩
        rw [← hX, ← hY] at P AT
        rw [← hX, ← hU, ← hY, ← hV] at hin
        rw [← hU, ← hV] at P2
        obtain ⟨g, hgg⟩ : ∃ b, b = gapZ x y n := ⟨_, rfl⟩
        rw [← hgg] at G hg
        have HP := Lib.hid P
        have HP2 := Lib.hid P2
        have HG := Lib.hid G
        have HAT := Lib.hid AT
        have HIN := Lib.hid hin
        have HXU := Lib.hid hXU
        have HGZ := Lib.hid hg
        have bb : (g == 0) = (x == y) := by
          rw [Bool.eq_iff_iff, beq_iff_eq, beq_iff_eq]; exact hg
        have HBB := Lib.hid bb
        clear P P2 G AT F hf hs hx hy hn ho hyo hin hg hAt hbd hX hY hU hV hXU hgg bb
        go_enter Try.func12, Try.ntmps12
        go_wp2_with fail
        refine (HA.out _).mono ?_
        rintro e w1 ⟨rfl, hb1⟩
        have HB1 := Lib.hid hb1
        clear hb1
        go_wp2_with fail
        refine (HP.out _).mono ?_
        rintro e w2 ⟨v2, rfl, ⟨a, b, rfl, ha, hb⟩, hb2⟩
        have HA' := Lib.hid ha
        have HB' := Lib.hid hb
        have HB2 := Lib.hid (Below.next HB1.out hb2)
        clear hb2 ha hb
        go_wp2_with fail
        refine (HP2.out _).mono ?_
        rintro e w3 ⟨v3, rfl, ⟨c, d, rfl, hc, hd⟩, hb3⟩
        have o1 := order_eq HA'.out hc
        have o2 := order_eq HB'.out hd
        have HB3 := Lib.hid (Below.next HB2.out hb3)
        have ee : ((FloatKind.f64.format.order a c == some .eq) && (FloatKind.f64.format.order b d == some .eq)) = (x == y) := by
          rw [o1, o2, Bool.eq_iff_iff, Bool.and_eq_true, decide_eq_true_iff, decide_eq_true_iff, beq_iff_eq]
          exact ⟨fun h => HIN.out h.1 h.2, HXU.out⟩
        by_cases hxy : x = y
        · have b1 : (x == y) = true := beq_iff_eq.2 hxy
          have b2 := HBB.out
          rw [b1] at b2 ee
          rw [Bool.and_eq_true] at ee
          obtain ⟨ee1, ee2⟩ := ee
          have HW := Lib.hid hxy
          clear hb3 o1 o2 hxy hc hd
          go_wp2_with fail
          refine (HF.out _).mono ?_
          rintro e w' ⟨rfl, rfl⟩
          go_wp2_with fail
          refine (HAT.out _ _ HA'.out HB'.out _).mono ?_
          rintro e w' ⟨rfl, rfl⟩
          go_wp2_with fail
          refine (HG.out _).mono ?_
          rintro e w4 ⟨rfl, hb4⟩
          have HB4 := Lib.hid (Below.next HB3.out hb4)
          clear hb4
          go_wp2_with fail
          go_ret
          exact ⟨rfl, HB4.out⟩
        · have b1 : (x == y) = false := beq_eq_false_iff_ne.2 hxy
          have b2 := HBB.out
          rw [b1] at b2 ee
          have ee' : ((FloatKind.f64.format.order a c == some .eq) = false) ∨ ((FloatKind.f64.format.order a c == some .eq) = true ∧ (FloatKind.f64.format.order b d == some .eq) = false) := by
            cases h1 : (FloatKind.f64.format.order a c == some .eq)
            · exact .inl rfl
            · right; rw [h1, Bool.true_and] at ee; exact ⟨rfl, ee⟩
          clear hb3 o1 o2 hxy hc hd ee
          rcases ee' with ee1 | ⟨ee1, ee2⟩
          all_goals
            go_wp2_with fail
            refine (HF.out _).mono ?_
            rintro e w' ⟨rfl, rfl⟩
            go_wp2_with fail
            refine (HAT.out _ _ HA'.out HB'.out _).mono ?_
            rintro e w' ⟨rfl, rfl⟩
            go_wp2_with fail
            refine (HG.out _).mono ?_
            rintro e w4 ⟨rfl, hb4⟩
            have HB4 := Lib.hid (Below.next HB3.out hb4)
            clear hb4
            go_wp2_with fail
            go_ret
            exact ⟨rfl, HB4.out⟩
      · have hyf : isOf y n = false := by rw [← Bool.not_eq_true]; exact hyo
        rw [hyf] at P2
        have HP := Lib.hid P
        have HP2 := Lib.hid P2
        clear P P2 G F hf hs hx hy hn ho hyo hyf
        go_enter Try.func12, Try.ntmps12
        go_wp2_with fail
        refine (HA.out _).mono ?_
        rintro e w1 ⟨rfl, hb1⟩
        have HB1 := Lib.hid hb1
        clear hb1
        go_wp2_with fail
        refine (HP.out _).mono ?_
        rintro e w2 ⟨v2, rfl, ⟨a, b, rfl, -, -⟩, hb2⟩
        have HB2 := Lib.hid (Below.next HB1.out hb2)
        clear hb2
        go_wp2_with fail
        refine (HP2.out _).mono ?_
        rintro e w3 ⟨v3, rfl, ⟨c, d, rfl, -, -⟩, hb3⟩
        have HB3 := Lib.hid (Below.next HB2.out hb3)
        clear hb3
        go_wp2_with fail
        refine (HF.out _).mono ?_
        rintro e w' ⟨rfl, rfl⟩
        go_wp2_with fail
        go_ret
        exact ⟨rfl, HB3.out⟩
    · have ho : isOf x n = false := by rw [isOf, hf, Bool.true_and, decide_eq_false hxo]
      have hd : x < 0 ∨ (0 ≤ x ∧ 2 * n - 2 < x) := by omega
      rw [ho] at P
      have HP := Lib.hid P
      have HP2 := Lib.hid P2
      clear P P2 G F hf hs hx hy hn ho hxo
      rcases hd with k1 | ⟨k1, k2⟩
      all_goals
        go_enter Try.func12, Try.ntmps12
        go_wp2_with fail
        refine (HA.out _).mono ?_
        rintro e w1 ⟨rfl, hb1⟩
        have HB1 := Lib.hid hb1
        clear hb1
        go_wp2_with fail
        refine (HP.out _).mono ?_
        rintro e w2 ⟨v2, rfl, ⟨a, b, rfl, -, -⟩, hb2⟩
        have HB2 := Lib.hid (Below.next HB1.out hb2)
        clear hb2
        go_wp2_with fail
        refine (HP2.out _).mono ?_
        rintro e w3 ⟨v3, rfl, ⟨c, d, rfl, -, -⟩, hb3⟩
        have HB3 := Lib.hid (Below.next HB2.out hb3)
        clear hb3
        go_wp2_with fail
        refine (HF.out _).mono ?_
        rintro e w' ⟨rfl, rfl⟩
        go_wp2_with fail
        go_ret
        exact ⟨rfl, HB3.out⟩
  · have hf' : fits n.toNat = false := by rw [← Bool.not_eq_true]; exact hf
    have ho : isOf x n = false := by rw [isOf, hf', Bool.false_and]
    rw [ho] at P
    rw [hf'] at F
    have HP := Lib.hid P
    have HP2 := Lib.hid P2
    have HF := Lib.hid F
    clear P P2 G F hf hf' hx hy hn ho
    go_enter Try.func12, Try.ntmps12
    go_wp2_with fail
    refine (HA.out _).mono ?_
    rintro e w1 ⟨rfl, hb1⟩
    have HB1 := Lib.hid hb1
    clear hb1
    go_wp2_with fail
    refine (HP.out _).mono ?_
    rintro e w2 ⟨v2, rfl, ⟨a, b, rfl, -, -⟩, hb2⟩
    have HB2 := Lib.hid (Below.next HB1.out hb2)
    clear hb2
    go_wp2_with fail
    refine (HP2.out _).mono ?_
    rintro e w3 ⟨v3, rfl, ⟨c, d, rfl, -, -⟩, hb3⟩
    have HB3 := Lib.hid (Below.next HB2.out hb3)
    clear hb3
    go_wp2_with fail
    refine (HF.out _).mono ?_
    rintro e w' ⟨rfl, rfl⟩
    go_wp2_with fail
    go_ret
    exact ⟨rfl, HB3.out⟩
end Go.Proofs.Ytbjfacfphgnhpaa
