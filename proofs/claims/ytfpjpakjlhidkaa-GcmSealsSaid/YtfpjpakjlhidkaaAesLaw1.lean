/- Walks: a key or a block that can't be; the chapter's example; the law AesBytes. -/
import Derived.Test.YtfpjpakjlhidkaaAesRefBox
namespace Go.Proofs.Ytfpjpakjlhidkaa
open Go.RowKit AesM

set_option maxRecDepth 100000 in
set_option maxHeartbeats 400000 in
theorem block_wrong (a a' : Option Addr) (n c m c' : Nat) (h : n ≠ 16 ∨ m ≠ 16) (w : World) :
    Calls Try.prog 15 #[.slice a n c, .slice a' m c'] w fun e w' => e = .returned (.tuple #[.slice none 0 0, .bool false]) ∧ w = w' := by
  by_cases h1 : n = 16
  · have h2 : ((m : Int) != 16) = true := by simp; omega
    subst h1
    go_enter Try.func15, Try.ntmps15
    go_wp2
    go_step3
    go_wp2
    rw [Exit.noGoto_ret]
    go_ret2
    exact ⟨rfl, rfl⟩
  · have h2 : ((n : Int) != 16) = true := by simp; omega
    go_enter Try.func15, Try.ntmps15
    go_wp2
    go_step3
    go_wp2
    rw [Exit.noGoto_ret]
    go_ret2
    exact ⟨rfl, rfl⟩

set_option maxRecDepth 100000 in
set_option maxHeartbeats 400000 in
theorem alive11 (w : World) :
    Calls Try.prog 10 #[] w fun e w' => e = .returned (.bool true) ∧ Below w.heap.size w w' := by
  have b0 : boxL.getD 0 0 = 99 := by decide +kernel
  have t0 : tms 87 131 = 193 := by decide +kernel
  have T := times_any 87 131 (by omega) (by omega)
  have B := box_any 0 (by omega)
  rw [b0] at B
  rw [t0] at T
  have HT := Lib.hid T
  have HB := Lib.hid B
  clear T B b0 t0
  go_enter Try.func10, Try.ntmps10
  go_wp2_with fail
  refine (block_wrong none none 0 0 0 0 (by omega) _).mono ?_
  rintro e w' ⟨rfl, rfl⟩
  go_wp2_with fail
  refine (HB.out _).mono ?_
  rintro e w1 ⟨rfl, hb⟩
  go_wp2_with fail
  refine (HT.out _).mono ?_
  rintro e w2 ⟨rfl, rfl⟩
  go_wp2_with fail
  go_ret
  exact ⟨rfl, hb⟩

set_option maxRecDepth 100000 in
set_option maxHeartbeats 400000 in
theorem aesBytes_walk (a b : Nat) (ha : a < 256) (hb : b < 256) (w : World) :
    Calls Try.prog 3 #[.int .u8 a, .int .u8 b] w fun e w' => e = .returned (.bool true) ∧ Below w.heap.size w w' := by
  have T := times_any a b ha hb
  have R := rtimes_any a b ha hb
  have B := box_any a ha
  have C := rbox_any a ha
  have hx : rbox a = boxL.getD a 0 := by
    rw [← rbox_all]
    simp [List.getD, ha]
  have ht := tms_lt b ha
  have hv : boxL.getD a 0 < 256 := by
    have := boxL_lt (boxL[a]'(by rw [boxL_len]; exact ha)) (List.getElem_mem _)
    simpa [List.getD, boxL_len, ha] using this
  rw [rtms_tms a b ha] at R
  rw [hx] at C
  obtain ⟨x, hX⟩ : ∃ x, x = tms a b := ⟨_, rfl⟩
  obtain ⟨y, hY⟩ : ∃ y, y = boxL.getD a 0 := ⟨_, rfl⟩
  rw [← hX] at T R ht
  rw [← hY] at B C hv
  have HT := Lib.hid T
  have HR := Lib.hid R
  have HB := Lib.hid B
  have HC := Lib.hid C
  clear T R B C hx hX hY
  go_enter Try.func3, Try.ntmps3
  go_wp2_with fail
  refine (alive11 _).mono ?_
  rintro e w1 ⟨rfl, h1⟩
  go_wp2_with fail
  refine (HT.out _).mono ?_
  rintro e w2 ⟨rfl, rfl⟩
  go_wp2_with fail
  refine (HR.out _).mono ?_
  rintro e w2 ⟨rfl, rfl⟩
  go_wp2_with fail
  refine (HB.out _).mono ?_
  rintro e w2 ⟨rfl, h2⟩
  go_wp2_with fail
  refine (HC.out _).mono ?_
  rintro e w3 ⟨rfl, h3⟩
  go_wp2_with fail
  go_ret
  exact ⟨rfl, h1.trans ((h2.mono h1.size).trans (h3.mono (Nat.le_trans h1.size h2.size)))⟩
end Go.Proofs.Ytfpjpakjlhidkaa
