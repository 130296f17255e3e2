/- Walks: wire.PutLen, wire.PutVec, the reference's Len, Vec. -/
import Derived.Test.YtkihcngllhjabaaWireNum
namespace Go.Proofs.Ytkihcngllhjabaa
open Go.RowKit WireM
set_option linter.unusedVariables false
set_option maxRecDepth 100000 in
set_option maxHeartbeats 2000000 in
theorem putLen_on (v : Value) (L : List Nat) (n : Nat) (w : World) (h : Rd w v (bvs L)) (hl : L.length < 549755813888) (hn : n < 1073741824) :
    Calls Try.prog 42 #[v, .int .i64 (n : Nat)] w fun e w' => ∃ v', e = .returned v' ∧ Own w' w.heap.size 5 v' (bvs (L ++ lenB n)) ∧ Below w.heap.size w w' := by
  have S := fun w => lenSize_any (n : Int) w
  by_cases h1 : n < 64
  · rw [lenS1 h1] at S
    have P := putNum_on v L 1 n w h hl rfl (by omega)
    rw [be1 n h1] at P
    have HS := Lib.hid S
    have HP := Lib.hid P
    have e : bits .or .u64 0 (n : Int) = (n : Int) := by
      have := u64_or_nat 0 n (by omega) (by omega)
      simpa using this
    clear S P h
    go_enter Try.func42, Try.ntmps42
    go_wp2_with fail
    refine (HS.out _).mono ?_
    rintro e w' ⟨rfl, rfl⟩
    go_wp2_with fail
    refine (HP.out).mono ?_
    rintro e w1 ⟨v1, rfl, hown, hb⟩
    have HO := Lib.hid hown
    have HB := Lib.hid hb
    clear hown hb
    go_wp2_with fail
    go_ret
    exact ⟨_, rfl, HO.out, HB.out⟩
  · by_cases h2 : n < 16384
    · rw [lenS2 (by omega) h2] at S
      have P := putNum_on v L 2 (16384 + n) w h hl rfl (by omega)
      rw [be2 n (by omega) h2] at P
      have HS := Lib.hid S
      have HP := Lib.hid P
      have e : bits .or .u64 16384 (n : Int) = ((16384 + n : Nat) : Int) := by
        have := u64_or_nat 16384 n (by omega) (by omega)
        rw [or2 n h2] at this
        exact this
      clear S P h
      go_enter Try.func42, Try.ntmps42
      go_wp2_with fail
      refine (HS.out _).mono ?_
      rintro e w' ⟨rfl, rfl⟩
      go_wp2_with fail
      refine (HP.out).mono ?_
      rintro e w1 ⟨v1, rfl, hown, hb⟩
      have HO := Lib.hid hown
      have HB := Lib.hid hb
      clear hown hb
      go_wp2_with fail
      go_ret
      exact ⟨_, rfl, HO.out, HB.out⟩
    · rw [lenS4 (by omega) hn] at S
      have P := putNum_on v L 4 (2147483648 + n) w h hl rfl (by omega)
      rw [be4 n (by omega) hn] at P
      have HS := Lib.hid S
      have HP := Lib.hid P
      have e : bits .or .u64 2147483648 (n : Int) = ((2147483648 + n : Nat) : Int) := by
        have := u64_or_nat 2147483648 n (by omega) (by omega)
        rw [or4 n hn] at this
        exact this
      clear S P h
      go_enter Try.func42, Try.ntmps42
      go_wp2_with fail
      refine (HS.out _).mono ?_
      rintro e w' ⟨rfl, rfl⟩
      go_wp2_with fail
      refine (HP.out).mono ?_
      rintro e w1 ⟨v1, rfl, hown, hb⟩
      have HO := Lib.hid hown
      have HB := Lib.hid hb
      clear hown hb
      go_wp2_with fail
      go_ret
      exact ⟨_, rfl, HO.out, HB.out⟩
set_option maxRecDepth 100000 in
set_option maxHeartbeats 2000000 in
theorem putLen_off (v : Value) (L : List Nat) (n : Int) (w : World) (h : Rd w v (bvs L)) (hl : L.length < 549755813888) (hn : n < 0 ∨ 1073741824 ≤ n) :
    Calls Try.prog 42 #[v, .int .i64 n] w fun e w' => ∃ v', e = .returned v' ∧ Own w' w.heap.size 5 v' (bvs L) ∧ Below w.heap.size w w' := by
  have S := fun w => lenSize_any n w
  have e0 : lenS n = 0 := by unfold lenS; rw [if_pos (by omega)]
  rw [e0] at S
  have C := clone_any v L w h (by omega)
  have HS := Lib.hid S
  have HC := Lib.hid C
  clear S C h hn e0
  go_enter Try.func42, Try.ntmps42
  go_wp2_with fail
  refine (HS.out _).mono ?_
  rintro e w' ⟨rfl, rfl⟩
  go_wp2_with fail
  refine (HC.out).mono ?_
  rintro e w1 ⟨v1, rfl, hown, hb⟩
  have HO := Lib.hid hown
  have HB := Lib.hid hb
  clear hown hb
  go_wp2_with fail
  go_ret
  exact ⟨_, rfl, HO.out, HB.out⟩
set_option maxRecDepth 100000 in
set_option maxHeartbeats 2000000 in
theorem rlen_any (n : Nat) (w : World) (hn : n < 1073741824) :
    Calls Try.prog 44 #[.int .i64 (n : Nat)] w fun e w' => ∃ v', e = .returned v' ∧ Own w' w.heap.size 5 v' (bvs (lenB n)) ∧ Below w.heap.size w w' := by
  by_cases h1 : n < 64
  · have e : lenB n = [n] := by unfold lenB; rw [if_pos h1]
    rw [e]
    clear e
    go_enter Try.func44, Try.ntmps44
    go_wp2_with fail
    go_ret
    exact ⟨_, rfl, Own.full (cs := #[.int .u8 (n : Int)]) rfl (Nat.le_refl _) (by unfold maxLen; simp) rfl, (Below.refl _ _).alloc (Nat.le_refl _) _⟩
  · by_cases h2 : n < 16384
    · have e : lenB n = [64 + n / 256, n % 256] := by unfold lenB; rw [if_neg h1, if_pos h2]
      rw [e]
      clear e
      have h3 : 64 ≤ n := by omega
      go_enter Try.func44, Try.ntmps44
      go_wp2_with fail
      go_ret
      exact ⟨_, rfl, Own.full (cs := #[.int .u8 ((64 + n / 256 : Nat) : Int), .int .u8 ((n % 256 : Nat) : Int)]) rfl (Nat.le_refl _) (by unfold maxLen; simp) rfl, (Below.refl _ _).alloc (Nat.le_refl _) _⟩
    · have e : lenB n = [128 + n / 16777216, n / 65536 % 256, n / 256 % 256, n % 256] := by unfold lenB; rw [if_neg h1, if_neg h2]
      rw [e]
      clear e
      have h3 : 16384 ≤ n := by omega
      go_enter Try.func44, Try.ntmps44
      go_wp2_with fail
      go_ret
      exact ⟨_, rfl, Own.full (cs := #[.int .u8 ((128 + n / 16777216 : Nat) : Int), .int .u8 ((n / 65536 % 256 : Nat) : Int), .int .u8 ((n / 256 % 256 : Nat) : Int), .int .u8 ((n % 256 : Nat) : Int)]) rfl (Nat.le_refl _) (by unfold maxLen; simp) rfl, (Below.refl _ _).alloc (Nat.le_refl _) _⟩
end Go.Proofs.Ytkihcngllhjabaa
