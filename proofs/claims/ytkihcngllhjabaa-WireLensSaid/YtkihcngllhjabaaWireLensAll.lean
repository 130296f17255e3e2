/- Walks: WireLens at every number. -/
import Derived.Test.YtkihcngllhjabaaWireLensOne
import Derived.Test.YtkihcngllhjabaaWireLensTwo
namespace Go.Proofs.Ytkihcngllhjabaa
open Go.RowKit WireM
set_option linter.unusedVariables false
set_option maxRecDepth 100000 in
set_option maxHeartbeats 2000000 in
theorem lens_off (n : Int) (hn : n < 0 ∨ (0 ≤ n ∧ 1073741824 ≤ n)) (w : World) :
    Calls Try.prog 7 #[.int .i64 n] w fun e w' => e = .returned (.bool true) ∧ Below w.heap.size w w' := by
  have HA := Lib.hid (fun w => alive01 w)
  have P := fun w v h => putLen_off v [9] n w h (by simp) (by omega)
  have S := fun w => lenSize_any n w
  have e0 : lenS n = 0 := by unfold lenS; rw [if_pos (by omega)]
  rw [e0] at S
  have HP := Lib.hid P
  have HS := Lib.hid S
  clear P S e0
  rcases hn with h | ⟨h0, h⟩
  all_goals
    go_enter Try.func7, Try.ntmps7
    go_wp2_with fail
    refine (HA.out _).mono ?_
    rintro e w1 ⟨rfl, hb⟩
    have HB1 := Lib.hid hb
    clear hb
    go_wp2_with fail
    have hr : Rd (w1.alloc (.cells #[.int .u8 9] 5)) (.slice (some ⟨w1.heap.size, 0, none⟩) 1 1) (bvs [9]) := lit_rd (cs := #[.int .u8 9]) (L := [9]) rfl rfl (by simp)
    refine (HP.out _ _ hr).mono ?_
    rintro e w2 ⟨v2, rfl, hown, hb⟩
    have HB2 := Lib.hid (Below.next (HB1.out.alloc HB1.out.size _) hb)
    obtain ⟨g, cap, cur, rfl, _, hgl, _, hc1, hc2, _, _, hc, _⟩ := hown.out (by simp [bvs])
    have e5 : (bvs [9]).length = 1 := rfl
    rw [e5] at hc1 ⊢
    clear hb hown hc hr e5
    go_wp2_with fail
    refine (HS.out _).mono ?_
    rintro e w' ⟨rfl, rfl⟩
    go_wp2_with fail
    go_ret
    exact ⟨rfl, HB2.out⟩
theorem wireLens_walk (n : Int) (hn : -9223372036854775808 ≤ n ∧ n ≤ 9223372036854775807) (w : World) :
    Calls Try.prog 7 #[.int .i64 n] w fun e w' => e = .returned (.bool true) ∧ Below w.heap.size w w' := by
  by_cases h : n < 0 ∨ (0 ≤ n ∧ 1073741824 ≤ n)
  · exact lens_off n h w
  · obtain ⟨k, rfl⟩ : ∃ k : Nat, n = (k : Int) := ⟨n.toNat, by omega⟩
    by_cases h1 : k < 64
    · exact lens_one k h1 w
    · by_cases h2 : k < 16384
      · exact lens_two k (by omega) h2 w
      · exact lens_big k (by omega) (by omega) w
end Go.Proofs.Ytkihcngllhjabaa
