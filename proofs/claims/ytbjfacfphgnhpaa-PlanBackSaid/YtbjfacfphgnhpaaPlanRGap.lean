/- Walks: the reference's Gap. -/
import Derived.Test.YtbjfacfphgnhpaaPlanGap
namespace Go.Proofs.Ytbjfacfphgnhpaa
open Go.RowKit WalkM FloatM
set_option linter.unusedVariables false
set_option maxRecDepth 100000 in
set_option maxHeartbeats 4000000 in
theorem rgap_any (x y n : Int) (w : World) (h1 : -9223372036854775808 ≤ n) (h2 : n ≤ 9223372036854775807) :
    Calls Try.prog 20 #[.int .i64 x, .int .i64 y, .int .i64 n] w (GapP x y n w) := by
  have P := fun w => rplace_any x n w h1 h2
  have R := fun w => rplace_any y n w h1 h2
  have eP : ∀ e w', GapP x y n w e w' ↔ e = .returned (.tuple #[.int .i64 (gapZ x y n), .bool (isOf x n && isOf y n)]) ∧ Below w.heap.size w w' := fun _ _ => Iff.rfl
  unfold gapZ at eP
  unfold RPlaceP at P R
  have hp := pl_bd x n
  have hq := pl_bd y n
  obtain ⟨X, hX⟩ : ∃ p, p = plX x n := ⟨_, rfl⟩
  obtain ⟨Y, hY⟩ : ∃ p, p = plY x n := ⟨_, rfl⟩
  obtain ⟨b, hb⟩ : ∃ p, p = isOf x n := ⟨_, rfl⟩
  obtain ⟨U, hU⟩ : ∃ p, p = plX y n := ⟨_, rfl⟩
  obtain ⟨V, hV⟩ : ∃ p, p = plY y n := ⟨_, rfl⟩
  obtain ⟨c, hc⟩ : ∃ p, p = isOf y n := ⟨_, rfl⟩
  rw [← hX, ← hY, ← hb] at P
  rw [← hU, ← hV, ← hc] at R
  rw [← hX, ← hY, ← hU, ← hV, ← hb, ← hc] at eP
  rw [← hX, ← hY] at hp
  rw [← hU, ← hV] at hq
  have HP := Lib.hid P
  have HR := Lib.hid R
  have HE := Lib.hid eP
  have bd : (X - U).natAbs < 16384 ∧ (Y - V).natAbs < 16384 := by omega
  have HB := Lib.hid bd
  have b1 := @sq_bd (X - U) (X - U) bd.1 bd.1
  have b2 := @sq_bd (Y - V) (Y - V) bd.2 bd.2
  have w1' : IntKind.i64.wrap (X - U) = X - U := by rw [IntKind.wrap_i64]; omega
  have w2' : IntKind.i64.wrap (Y - V) = Y - V := by rw [IntKind.wrap_i64]; omega
  have w3' : IntKind.i64.wrap ((X - U) * (X - U)) = (X - U) * (X - U) := by rw [IntKind.wrap_i64]; omega
  have w4' : IntKind.i64.wrap ((Y - V) * (Y - V)) = (Y - V) * (Y - V) := by rw [IntKind.wrap_i64]; omega
  have w5' : IntKind.i64.wrap ((X - U) * (X - U) + (Y - V) * (Y - V)) = (X - U) * (X - U) + (Y - V) * (Y - V) := by rw [IntKind.wrap_i64]; omega
  have W1 := Lib.hid w1'
  have W2 := Lib.hid w2'
  have W3 := Lib.hid w3'
  have W4 := Lib.hid w4'
  have W5 := Lib.hid w5'
  clear P R eP hX hY hb hU hV hc hp hq h1 h2 bd b1 b2 w1' w2' w3' w4' w5'
  go_enter Try.func20, Try.ntmps20
  go_wp2_with fail
  refine (HP.out _).mono ?_
  rintro e w1 ⟨rfl, hb1⟩
  have HB1 := Lib.hid hb1
  clear hb1
  go_wp2_with (refine wpList_store_blk rfl 29 (.tmp 8) (.tmp 16) rfl w1.heap.size #[.int .i64 X, .int .i64 Y] rfl rfl _ _ (Blk.new _ _ _) (by kernel_rfl) rfl rfl ?_)
  rintro w2 hk2 hb2 - -
  have HB2 := Lib.hid ((HB1.out.alloc HB1.out.size _).trans (hb2 _ HB1.out.size))
  have HK2 := Lib.hid hk2
  clear hk2 hb2
  go_wp2_with fail
  refine (HR.out _).mono ?_
  rintro e w3 ⟨rfl, hb3⟩
  have HB3 := Lib.hid (Below.next HB2.out hb3)
  have HK3 := Lib.hid (HK2.out.below hb3 HK2.out.lt)
  clear hb3
  go_wp2_with (refine wpList_store_blk rfl 29 (.tmp 10) (.tmp 22) rfl w3.heap.size #[.int .i64 U, .int .i64 V] rfl rfl _ _ (Blk.new _ _ _) (by kernel_rfl) rfl rfl ?_)
  rintro w4 hk4 hb4 - -
  have HB4 := Lib.hid ((HB3.out.alloc HB3.out.size _).trans (hb4 _ HB3.out.size))
  have HK4 := Lib.hid hk4
  have HK4' := Lib.hid ((HK3.out.alloc _).below (hb4 _ (Nat.le_refl _)) HK3.out.lt)
  clear hk4 hb4
  cases b with
  | false =>
    have HE2 := Lib.hid ((HE.out (.returned (.tuple #[.int .i64 0, .bool false])) w4).2 ⟨by rw [if_neg (by simp)]; rfl, HB4.out⟩)
    go_wp2_with fail
    go_ret2
    exact HE2.out
  | true =>
    cases c with
    | false =>
      have HE2 := Lib.hid ((HE.out (.returned (.tuple #[.int .i64 0, .bool false])) w4).2 ⟨by rw [if_neg (by simp)]; rfl, HB4.out⟩)
      go_wp2_with fail
      go_ret2
      exact HE2.out
    | true =>
      have HE2 := Lib.hid ((HE.out (.returned (.tuple #[.int .i64 ((X - U) * (X - U) + (Y - V) * (Y - V)), .bool true])) w4).2 ⟨by rw [if_pos (by simp)]; rfl, HB4.out⟩)
      have y0 := HK4.out.cell 0
      have y1 := HK4.out.cell 1
      have z0 := HK4'.out.cell 0
      have z1 := HK4'.out.cell 1
      simp only [List.getElem?_toArray, List.getElem?_cons_zero, List.getElem?_cons_succ] at y0 y1 z0 z1
      have w1' := W1.out
      have w2' := W2.out
      have w3' := W3.out
      have w4' := W4.out
      have w5' := W5.out
      go_wp2_with fail
      go_ret2
      exact HE2.out
end Go.Proofs.Ytbjfacfphgnhpaa
