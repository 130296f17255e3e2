/- Walks: PlanTurns. -/
import Derived.Test.YtbjfacfphgnhpaaPlanRAt
namespace Go.Proofs.Ytbjfacfphgnhpaa
open Go.RowKit WalkM FloatM
set_option linter.unusedVariables false
set_option maxRecDepth 100000 in
set_option maxHeartbeats 4000000 in
theorem planTurns_walk (x n q : Int) (hx : -9223372036854775808 ≤ x ∧ x ≤ 9223372036854775807) (hn : -9223372036854775808 ≤ n ∧ n ≤ 9223372036854775807) (hq : -9223372036854775808 ≤ q ∧ q ≤ 9223372036854775807) (w : World) :
    Calls Try.prog 11 #[.int .i64 x, .int .i64 n, .int .i64 q] w fun e w' => e = .returned (.bool true) ∧ Below w.heap.size w w' := by
  have HA := Lib.hid (fun w => alive15 w)
  have T := fun w => turn_any x n q w hn.1 hn.2 hq.1 hq.2
  have P := fun w => rplace_any x n w hn.1 hn.2
  unfold TurnP at T
  unfold RPlaceP at P
  have hp := pl_bd x n
  by_cases hmid : 64 < n ∧ n ≤ 65536
  · obtain ⟨m1, m2⟩ := hmid
    clear T P hp hx hn hq
    go_enter Try.func11, Try.ntmps11
    go_wp2_with fail
    refine (HA.out _).mono ?_
    rintro e w1 ⟨rfl, hb1⟩
    have HB1 := Lib.hid hb1
    clear hb1
    go_wp2_with fail
    go_ret
    exact ⟨rfl, HB1.out⟩
  · have hm2 : n ≤ 64 ∨ (64 < n ∧ 65536 < n) := by omega
    by_cases ho : isOf x n = true
    · have eR : turnR x n q = atZ (turnN (qrt q) (plX x n, plY x n)).1 (turnN (qrt q) (plX x n, plY x n)).2 n := by rw [turnR, if_pos ho]
      have RT := fun w => rturned_any (plX x n) (plY x n) q w (by omega) (by omega) hq.1 hq.2
      have RA := fun w => rat_any (turnN (qrt q) (plX x n, plY x n)).1 (turnN (qrt q) (plX x n, plY x n)).2 n w hn.1 hn.2
      unfold RTP at RT
      unfold TurnP at RA
      rw [← eR] at RA
      rw [ho] at P
      obtain ⟨R, hR⟩ : ∃ R, R = turnR x n q := ⟨_, rfl⟩
      rw [← hR] at RA T
      obtain ⟨z, hz⟩ : ∃ z : Int, z = R.getD 0 := ⟨_, rfl⟩
      obtain ⟨b, hb⟩ : ∃ b : Bool, b = R.isSome := ⟨_, rfl⟩
      rw [← hz, ← hb] at RA T
      obtain ⟨tX, htX⟩ : ∃ b, b = (turnN (qrt q) (plX x n, plY x n)).1 := ⟨_, rfl⟩
      obtain ⟨tY, htY⟩ : ∃ b, b = (turnN (qrt q) (plX x n, plY x n)).2 := ⟨_, rfl⟩
      rw [← htX, ← htY] at RA RT
      obtain ⟨X, hX⟩ : ∃ b, b = plX x n := ⟨_, rfl⟩
      obtain ⟨Y, hY⟩ : ∃ b, b = plY x n := ⟨_, rfl⟩
      rw [← hX, ← hY] at P RT
      have HT := Lib.hid T
      have HP := Lib.hid P
      have HRT := Lib.hid RT
      have HRA := Lib.hid RA
      have e1 : (b == b) = true := by simp
      have e2 : (z == z) = true := by simp
      clear T P RT RA hp hx hn hq ho eR hR hz hb htX htY hX hY hmid
      rcases hm2 with m1 | ⟨m1, m2⟩
      all_goals
        go_enter Try.func11, Try.ntmps11
        go_wp2_with fail
        refine (HA.out _).mono ?_
        rintro e w1 ⟨rfl, hb1⟩
        have HB1 := Lib.hid hb1
        clear hb1
        go_wp2_with fail
        refine (HT.out _).mono ?_
        rintro e w2 ⟨rfl, hb2⟩
        have HB2 := Lib.hid (Below.next HB1.out hb2)
        clear hb2
        go_wp2_with fail
        refine (HP.out _).mono ?_
        rintro e w3 ⟨rfl, hb3⟩
        have HB3 := Lib.hid (Below.next HB2.out hb3)
        clear hb3
        go_wp2_with (refine wpList_store_blk rfl 29 (.tmp 9) (.tmp 32) rfl w3.heap.size #[.int .i64 X, .int .i64 Y] rfl rfl _ _ (Blk.new _ _ _) (by kernel_rfl) rfl rfl ?_)
        rintro w4 hk4 hb4 - -
        have HB4 := Lib.hid ((HB3.out.alloc HB3.out.size _).trans (hb4 _ HB3.out.size))
        have y0 := hk4.cell 0
        have y1 := hk4.cell 1
        simp only [List.getElem?_toArray, List.getElem?_cons_zero, List.getElem?_cons_succ] at y0 y1
        clear hk4 hb4
        go_wp2_with fail
        refine (HRT.out _).mono ?_
        rintro e w5 ⟨rfl, hb5⟩
        have HB5 := Lib.hid (Below.next HB4.out hb5)
        clear hb5
        go_wp2_with fail
        refine (HRA.out _).mono ?_
        rintro e w6 ⟨rfl, hb6⟩
        have HB6 := Lib.hid (Below.next HB5.out hb6)
        clear hb6
        go_wp2_with fail
        go_ret
        exact ⟨rfl, HB6.out⟩
    · have hf : isOf x n = false := by rw [← Bool.not_eq_true]; exact ho
      have eR : turnR x n q = none := by rw [turnR, if_neg ho]
      rw [hf] at P
      rw [eR] at T
      obtain ⟨X, hX⟩ : ∃ b, b = plX x n := ⟨_, rfl⟩
      obtain ⟨Y, hY⟩ : ∃ b, b = plY x n := ⟨_, rfl⟩
      rw [← hX, ← hY] at P
      have T' : ∀ w, Calls Try.prog 47 #[.int .i64 x, .int .i64 n, .int .i64 q] w fun e w' => e = .returned (.tuple #[.int .i64 0, .bool false]) ∧ Below w.heap.size w w' := T
      have HT := Lib.hid T'
      have HP := Lib.hid P
      clear T T' P hp hx hn hq ho eR hX hY hmid hf
      rcases hm2 with m1 | ⟨m1, m2⟩
      all_goals
        go_enter Try.func11, Try.ntmps11
        go_wp2_with fail
        refine (HA.out _).mono ?_
        rintro e w1 ⟨rfl, hb1⟩
        have HB1 := Lib.hid hb1
        clear hb1
        go_wp2_with fail
        refine (HT.out _).mono ?_
        rintro e w2 ⟨rfl, hb2⟩
        have HB2 := Lib.hid (Below.next HB1.out hb2)
        clear hb2
        go_wp2_with fail
        refine (HP.out _).mono ?_
        rintro e w3 ⟨rfl, hb3⟩
        have HB3 := Lib.hid (Below.next HB2.out hb3)
        clear hb3
        go_wp2_with (refine wpList_store_blk rfl 29 (.tmp 9) (.tmp 32) rfl w3.heap.size #[.int .i64 X, .int .i64 Y] rfl rfl _ _ (Blk.new _ _ _) (by kernel_rfl) rfl rfl ?_)
        rintro w4 hk4 hb4 - -
        have HB4 := Lib.hid ((HB3.out.alloc HB3.out.size _).trans (hb4 _ HB3.out.size))
        clear hk4 hb4
        go_wp2_with fail
        go_ret
        exact ⟨rfl, HB4.out⟩
end Go.Proofs.Ytbjfacfphgnhpaa
