/- Walks: the law's alive, PlanPlaces. -/
import Derived.Test.YtbjfacfphgnhpaaPlanRPlace
namespace Go.Proofs.Ytbjfacfphgnhpaa
open Go.RowKit WalkM FloatM
set_option linter.unusedVariables false
theorem neg_one : IsF 13830554455654793216 (-1) := ⟨true, 52, by decide, fun _ => rfl⟩
theorem pl_bd (x n : Int) : ((plX x n).natAbs < 4096 ∧ (plY x n).natAbs < 4096) := by
  by_cases ho : isOf x n = true
  · obtain ⟨m, d, rfl, rfl, hd, hm⟩ := isOf_out ho
    have eX : plX (m : Int) ((2 ^ d : Nat) : Int) = sumX m (lev m) (d - lev m) := by
      rw [plX, if_pos ho, Int.toNat_natCast, Int.toNat_natCast, Nat.log2_two_pow]
    have eY : plY (m : Int) ((2 ^ d : Nat) : Int) = sumY m (lev m) (d - lev m) := by
      rw [plY, if_pos ho, Int.toNat_natCast, Int.toNat_natCast, Nat.log2_two_pow]
    rw [eX, eY]
    have h1 := sumX_bd m (lev m) (d - lev m)
    have h2 := sumY_bd m (lev m) (d - lev m)
    omega
  · rw [plX, plY, if_neg ho, if_neg ho]
    decide
set_option maxRecDepth 100000 in
set_option maxHeartbeats 2000000 in
theorem alive15 (w : World) : Calls Try.prog 14 #[] w fun e w' => e = .returned (.bool true) ∧ Below w.heap.size w w' := by
  have P := fun w => place_any 0 4 w (by omega) (by omega)
  have R := fun w => place_any 1 4 w (by omega) (by omega)
  have e0 : plX 0 4 = -1 := by decide +kernel
  have e1 : plY 0 4 = -1 := by decide +kernel
  have e2 : plX 1 4 = 0 := by decide +kernel
  have e3 : plY 1 4 = -1 := by decide +kernel
  have e4 : isOf 0 4 = true := by decide +kernel
  have e5 : isOf 1 4 = true := by decide +kernel
  unfold PlaceP at P R
  rw [e0, e1, e4] at P
  rw [e2, e3, e5] at R
  have HP := Lib.hid P
  have HR := Lib.hid R
  clear P R e0 e1 e2 e3 e4 e5
  go_enter Try.func14, Try.ntmps14
  go_wp2_with fail
  refine (HP.out _).mono ?_
  rintro e w1 ⟨v1, rfl, ⟨a, b, rfl, ha, hb⟩, hb1⟩
  have o1 : (FloatKind.f64.format.order a 13830554455654793216 == some .eq) = true := (order_eq ha neg_one).trans rfl
  have o2 : (FloatKind.f64.format.order b 13830554455654793216 == some .eq) = true := (order_eq hb neg_one).trans rfl
  have HB1 := Lib.hid hb1
  clear ha hb hb1
  go_wp2_with fail
  refine (HR.out _).mono ?_
  rintro e w2 ⟨v2, rfl, ⟨c, d, rfl, hc, hd⟩, hb2⟩
  have o3 : (FloatKind.f64.format.order c 0 == some .eq) = true := (order_eq hc isF_zero).trans rfl
  have o4 : (FloatKind.f64.format.order d 13830554455654793216 == some .eq) = true := (order_eq hd neg_one).trans rfl
  have HB2 := Lib.hid (Below.next HB1.out hb2)
  clear hc hd hb2
  go_wp2_with fail
  go_ret
  exact ⟨rfl, HB2.out⟩
set_option maxRecDepth 100000 in
set_option maxHeartbeats 4000000 in
theorem planPlaces_walk (x n l : Int) (hx : -9223372036854775808 ≤ x ∧ x ≤ 9223372036854775807) (hn : -9223372036854775808 ≤ n ∧ n ≤ 9223372036854775807) (hl : -9223372036854775808 ≤ l ∧ l ≤ 9223372036854775807) (w : World) :
    Calls Try.prog 3 #[.int .i64 x, .int .i64 n, .int .i64 l] w fun e w' => e = .returned (.bool true) ∧ Below w.heap.size w w' := by
  have HA := Lib.hid (fun w => alive15 w)
  have RS := fun w => rstride_any l w
  have S := fun w => stride_any l w
  have RP := fun w => rplace_any x n w hn.1 hn.2
  have P := fun w => place_any x n w hn.1 hn.2
  have hp := pl_bd x n
  unfold RetC strX strY at S
  unfold RPlaceP at RP
  unfold PlaceP at P
  obtain ⟨X, hX⟩ : ∃ p, p = plX x n := ⟨_, rfl⟩
  obtain ⟨Y, hY⟩ : ∃ p, p = plY x n := ⟨_, rfl⟩
  obtain ⟨b, hb⟩ : ∃ p, p = isOf x n := ⟨_, rfl⟩
  rw [← hX, ← hY, ← hb] at RP P
  rw [← hX, ← hY] at hp
  have hm := strM_bd l
  obtain ⟨M, hM⟩ : ∃ p, p = strM l := ⟨_, rfl⟩
  obtain ⟨U, hU⟩ : ∃ p, p = strU l := ⟨_, rfl⟩
  rw [← hM] at hm S RS
  rw [← hU] at S RS
  have iX : IsF (floatOfInt .f64 X) X := isF_int _ (by omega)
  have iY : IsF (floatOfInt .f64 Y) Y := isF_int _ (by omega)
  have iM : IsF (floatOfInt .f64 M) M := isF_int _ (by omega)
  have HIX := Lib.hid iX
  have HIY := Lib.hid iY
  have HIM := Lib.hid iM
  have HRS := Lib.hid RS
  have HS := Lib.hid S
  have HRP := Lib.hid RP
  have HP := Lib.hid P
  clear RS S RP P hX hY hb hM hU hp hm iX iY iM hx hn hl
  go_enter Try.func3, Try.ntmps3
  go_wp2_with fail
  refine (HA.out _).mono ?_
  rintro e w1 ⟨rfl, hb1⟩
  have HB1 := Lib.hid hb1
  clear hb1
  go_wp2_with fail
  refine (HRS.out _).mono ?_
  rintro e w' ⟨rfl, rfl⟩
  go_wp2_with fail
  refine (HS.out _).mono ?_
  rintro e w' ⟨v, rfl, ⟨re, im, rfl, hre, him⟩, rfl⟩
  cases U with
  | true =>
    have o1 : (FloatKind.f64.format.order re 0 == some .eq) = true := (order_eq (b := 0) hre isF_zero).trans rfl
    have o2 : (FloatKind.f64.format.order im (floatOfInt .f64 M) == some .eq) = true := (order_eq (a := M) him HIM.out).trans (decide_eq_true rfl)
    clear hre him
    go_wp2_with fail
    refine (HRP.out _).mono ?_
    rintro e w2 ⟨rfl, hb2⟩
    have HB2 := Lib.hid (Below.next HB1.out hb2)
    clear hb2
    go_wp2_with (first
          | (refine wpList_store_blk rfl 29 (.tmp 10) (.tmp 45) rfl w2.heap.size #[.int .i64 X, .int .i64 Y] rfl rfl _ _ (Blk.new _ _ _) (by kernel_rfl) rfl rfl ?_))
    rintro w3 hk3 hb3 - -
    have HB3 := Lib.hid ((HB2.out.alloc HB2.out.size _).trans (hb3 _ HB2.out.size))
    have HK3 := Lib.hid hk3
    clear hk3 hb3
    go_wp2_with fail
    refine (HP.out _).mono ?_
    rintro e w4 ⟨v4, rfl, ⟨c, d, rfl, hc, hd⟩, hb4⟩
    have o3 : (FloatKind.f64.format.order c (floatOfInt .f64 X) == some .eq) = true := (order_eq hc HIX.out).trans (decide_eq_true rfl)
    have o4 : (FloatKind.f64.format.order d (floatOfInt .f64 Y) == some .eq) = true := (order_eq hd HIY.out).trans (decide_eq_true rfl)
    have HK4 := Lib.hid (HK3.out.below hb4 HK3.out.lt)
    have y0 := HK4.out.cell 0
    have y1 := HK4.out.cell 1
    simp only [List.getElem?_toArray, List.getElem?_cons_zero, List.getElem?_cons_succ] at y0 y1
    have HB4 := Lib.hid (Below.next HB3.out hb4)
    clear hc hd hb4
    go_wp2_with fail
    go_ret
    exact ⟨rfl, HB4.out⟩
  | false =>
    have o1 : (FloatKind.f64.format.order re (floatOfInt .f64 M) == some .eq) = true := (order_eq (a := M) hre HIM.out).trans (decide_eq_true rfl)
    have o2 : (FloatKind.f64.format.order im 0 == some .eq) = true := (order_eq (b := 0) him isF_zero).trans rfl
    clear hre him
    go_wp2_with fail
    refine (HRP.out _).mono ?_
    rintro e w2 ⟨rfl, hb2⟩
    have HB2 := Lib.hid (Below.next HB1.out hb2)
    clear hb2
    go_wp2_with (first
          | (refine wpList_store_blk rfl 29 (.tmp 10) (.tmp 45) rfl w2.heap.size #[.int .i64 X, .int .i64 Y] rfl rfl _ _ (Blk.new _ _ _) (by kernel_rfl) rfl rfl ?_))
    rintro w3 hk3 hb3 - -
    have HB3 := Lib.hid ((HB2.out.alloc HB2.out.size _).trans (hb3 _ HB2.out.size))
    have HK3 := Lib.hid hk3
    clear hk3 hb3
    go_wp2_with fail
    refine (HP.out _).mono ?_
    rintro e w4 ⟨v4, rfl, ⟨c, d, rfl, hc, hd⟩, hb4⟩
    have o3 : (FloatKind.f64.format.order c (floatOfInt .f64 X) == some .eq) = true := (order_eq hc HIX.out).trans (decide_eq_true rfl)
    have o4 : (FloatKind.f64.format.order d (floatOfInt .f64 Y) == some .eq) = true := (order_eq hd HIY.out).trans (decide_eq_true rfl)
    have HK4 := Lib.hid (HK3.out.below hb4 HK3.out.lt)
    have y0 := HK4.out.cell 0
    have y1 := HK4.out.cell 1
    simp only [List.getElem?_toArray, List.getElem?_cons_zero, List.getElem?_cons_succ] at y0 y1
    have HB4 := Lib.hid (Below.next HB3.out hb4)
    clear hc hd hb4
    go_wp2_with fail
    go_ret
    exact ⟨rfl, HB4.out⟩
end Go.Proofs.Ytbjfacfphgnhpaa
