/- Walks: plan.Gap and the reference's. -/
import Derived.Test.YtbjfacfphgnhpaaPlanPlaces
import Derived.Test.YtbjfacfphgnhpaaFloatMore
import Derived.BigQuiet
namespace Go.Proofs.Ytbjfacfphgnhpaa
open Go.RowKit WalkM FloatM
set_option linter.unusedVariables false
def gapZ (x y n : Int) : Int := if isOf x n = true ∧ isOf y n = true then (plX x n - plX y n) * (plX x n - plX y n) + (plY x n - plY y n) * (plY x n - plY y n) else 0
def GapP (x y n : Int) (w : World) (e : Ending) (w' : World) : Prop := e = .returned (.tuple #[.int .i64 (gapZ x y n), .bool (isOf x n && isOf y n)]) ∧ Below w.heap.size w w'
theorem sq_bd {X Y : Int} (hX : X.natAbs < 16384) (hY : Y.natAbs < 16384) : -268435456 < X * Y ∧ X * Y < 268435456 := by
  have h : (X * Y).natAbs < 2 ^ 28 := by
    rw [Int.natAbs_mul]
    have := Nat.mul_le_mul (show X.natAbs ≤ 16383 by omega) (show Y.natAbs ≤ 16383 by omega)
    omega
  omega
theorem gapZ_bd (x y n : Int) : -536870912 < gapZ x y n ∧ gapZ x y n < 536870912 := by
  unfold gapZ
  have h1 := pl_bd x n
  have h2 := pl_bd y n
  split
  · have a := @sq_bd (plX x n - plX y n) (plX x n - plX y n) (by omega) (by omega)
    have b := @sq_bd (plY x n - plY y n) (plY x n - plY y n) (by omega) (by omega)
    omega
  · omega
set_option maxRecDepth 100000 in
set_option maxHeartbeats 2000000 in
theorem gap_any (x y n : Int) (w : World) (h1 : -9223372036854775808 ≤ n) (h2 : n ≤ 9223372036854775807) :
    Calls Try.prog 19 #[.int .i64 x, .int .i64 y, .int .i64 n] w (GapP x y n w) := by
  have P := fun w => place_any x n w h1 h2
  have R := fun w => place_any y n w h1 h2
  have eP : ∀ e w', GapP x y n w e w' ↔ e = .returned (.tuple #[.int .i64 (gapZ x y n), .bool (isOf x n && isOf y n)]) ∧ Below w.heap.size w w' := fun _ _ => Iff.rfl
  unfold gapZ at eP
  unfold PlaceP at P R
  have hp := pl_bd x n
  have hq := pl_bd y n
  obtain ⟨X, hX⟩ : ∃ p, p = plX x n := ⟨_, rfl⟩
  obtain ⟨Y, hY⟩ : ∃ p, p = plY x n := ⟨_, rfl⟩
  obtain ⟨b, hb⟩ : ∃ p, p = isOf x n := ⟨_, rfl⟩
  obtain ⟨U, hU⟩ : ∃ p, p = plX y n := ⟨_, rfl⟩
  obtain ⟨V, hV⟩ : ∃ p, p = plY y n := ⟨_, rfl⟩
  obtain ⟨c, hc⟩ : ∃ p, p = isOf y n := ⟨_, rfl⟩
  rw [← hX, ← hY, ← hb] at P
  rw [← hU, ← hV, ← hc] at R
  rw [← hX, ← hY, ← hU, ← hV, ← hb, ← hc] at eP
  rw [← hX, ← hY] at hp
  rw [← hU, ← hV] at hq
  have HP := Lib.hid P
  have HR := Lib.hid R
  have HE := Lib.hid eP
  have HB := Lib.hid (show (X - U).natAbs < 16384 ∧ (Y - V).natAbs < 16384 ∧ X.natAbs < 2 ^ 52 ∧ Y.natAbs < 2 ^ 52 ∧ U.natAbs < 2 ^ 52 ∧ V.natAbs < 2 ^ 52 by omega)
  clear P R eP hX hY hb hU hV hc hp hq h1 h2
  go_enter Try.func19, Try.ntmps19
  go_wp2_with fail
  refine (HP.out _).mono ?_
  rintro e w1 ⟨v1, rfl, ⟨p1, p2, rfl, hp1, hp2⟩, hb1⟩
  have HB1 := Lib.hid hb1
  clear hb1
  go_wp2_with fail
  refine (HR.out _).mono ?_
  rintro e w2 ⟨v2, rfl, ⟨q1, q2, rfl, hq1, hq2⟩, hb2⟩
  have HB2 := Lib.hid (Below.next HB1.out hb2)
  clear hb2
  cases b with
  | false =>
    have HE2 := Lib.hid ((HE.out (.returned (.tuple #[.int .i64 0, .bool false])) w2).2 ⟨by rw [if_neg (by simp)]; rfl, HB2.out⟩)
    clear hp1 hp2 hq1 hq2
    go_wp2_with fail
    go_ret2
    exact HE2.out
  | true =>
    cases c with
    | false =>
      have HE2 := Lib.hid ((HE.out (.returned (.tuple #[.int .i64 0, .bool false])) w2).2 ⟨by rw [if_neg (by simp)]; rfl, HB2.out⟩)
      clear hp1 hp2 hq1 hq2
      go_wp2_with fail
      go_ret2
      exact HE2.out
    | true =>
      obtain ⟨s1, s2, hs, hs1, hs2⟩ := csum (Or.inr rfl) hp1 hp2 hq1 hq2 HB.out.2.2.1 HB.out.2.2.2.1 HB.out.2.2.2.2.1 HB.out.2.2.2.2.2
      rw [if_neg (by decide)] at hs1 hs2
      obtain ⟨t1, t2, ht, ht1⟩ := cconj hs1 hs2 HB.out.1 HB.out.2.1
      have hbd : ((X - U) * (X - U) + (Y - V) * (Y - V)).natAbs < 2 ^ 53 := by
        have a := @sq_bd (X - U) (X - U) HB.out.1 HB.out.1
        have b := @sq_bd (Y - V) (Y - V) HB.out.2.1 HB.out.2.1
        omega
      have hI := isF_toInt ht1 hbd
      have r1 := fun w => run_complex_sum (P := Try.prog) w .sub (Or.inr rfl) 25 _ _ _ _ _ _ _ hs
      have r2 := fun w => run_complex_mul (P := Try.prog) w 25 _ _ _ _ _ _ ht
      have r3 := fun w => run_convert_float_int (P := Try.prog) w 27 3 .f64 .i64 t1 _ (by rw [Try.underlying27]; rfl) Try.underlying3 hI
      have r4 : ∀ w, (Op.unary .neg (.float .f64 s2)).run Try.prog w = .ok (.float .f64 (Op.negFloat .f64 s2)) w := fun _ => rfl
      have HE2 := Lib.hid ((HE.out (.returned (.tuple #[.int .i64 ((X - U) * (X - U) + (Y - V) * (Y - V)), .bool true])) w2).2 ⟨by rw [if_pos (by simp)]; rfl, HB2.out⟩)
      obtain ⟨Z, hZ⟩ : ∃ Z, Z = (X - U) * (X - U) + (Y - V) * (Y - V) := ⟨_, rfl⟩
      rw [← hZ] at r3 HE2
      clear hp1 hp2 hq1 hq2 hs hs1 hs2 ht ht1 hI hZ hbd
      go_wp2_with fail
      go_ret2
      exact HE2.out
end Go.Proofs.Ytbjfacfphgnhpaa
