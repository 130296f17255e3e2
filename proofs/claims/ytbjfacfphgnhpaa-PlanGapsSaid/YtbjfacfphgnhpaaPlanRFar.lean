/- Walks: the reference's Far. -/
import Derived.Test.YtbjfacfphgnhpaaPlanFarMath
namespace Go.Proofs.Ytbjfacfphgnhpaa
open Go.RowKit WalkM FloatM
set_option linter.unusedVariables false
def allTo (x n : Int) (L : List Int) : Nat → Bool
  | 0 => isOf x n
  | r + 1 => allTo x n L r && isOf (L.getD r 0) n
theorem allTo_eq (x n : Int) (L : List Int) : ∀ r, r ≤ L.length → allTo x n L r = (isOf x n && (L.take r).all fun y => isOf y n) := by
  intro r
  induction r with
  | zero => intro _; simp [allTo]
  | succ r ih =>
    intro hr
    rw [allTo, ih (by omega), List.take_succ_eq_append_getElem (by omega), List.all_append, List.getD_eq_getElem?_getD, List.getElem?_eq_getElem (by omega)]
    simp [Bool.and_assoc]
theorem allTo_all (x n : Int) (L : List Int) : allTo x n L L.length = (isOf x n && allOf L n) := by
  rw [allTo_eq x n L _ (Nat.le_refl _), List.take_length]; rfl
set_option maxRecDepth 100000 in
set_option maxHeartbeats 2000000 in
theorem rfar_any (x n : Int) (v : Value) (L : List Int) (w : World) (h1 : -9223372036854775808 ≤ n) (h2 : n ≤ 9223372036854775807) (hr : Rd w v (ivs .i64 L)) :
    Calls Try.prog 22 #[.int .i64 x, v, .int .i64 n] w (FarP x n L w) := by
  have P := fun y w => rplace_any y n w h1 h2
  have G := fun y w => rgap_any x y n w h1 h2
  have eP : ∀ e w', FarP x n L w e w' ↔ e = .returned (.tuple #[.int .i64 (farZ x n L), .bool (farOk x n L)]) ∧ Below w.heap.size w w' := fun _ _ => Iff.rfl
  unfold RPlaceP at P
  unfold GapP at G
  rcases hr.icases with ⟨a, cap, rfl, rfl⟩ | ⟨b, off, cap, hpos, hc1, hc2, rfl, hb, hcell⟩
  · have e1 : farOk x n [] = false := by simp [farOk]
    have e2 : farZ x n [] = 0 := by rw [farZ, e1]; rfl
    rw [e1, e2] at eP
    have HE := Lib.hid (fun w1 h => (eP (.returned (.tuple #[.int .i64 0, .bool false])) w1).2 ⟨rfl, h⟩)
    have HP := Lib.hid P
    clear P G eP e1 e2 hr h1 h2
    go_enter Try.func22, Try.ntmps22
    go_wp2_with fail
    refine (HP.out _ _).mono ?_
    rintro e w1 ⟨rfl, hb1⟩
    have HB1 := Lib.hid hb1
    clear hb1
    go_wp2_with (refine wpList_store_blk rfl 29 (.tmp 8) (.tmp 24) rfl w1.heap.size #[.int .i64 (plX x n), .int .i64 (plY x n)] rfl rfl _ _ (Blk.new _ _ _) (by kernel_rfl) rfl rfl ?_)
    rintro w2 hk2 hb2 - -
    have HB2 := Lib.hid ((HB1.out.alloc HB1.out.size _).trans (hb2 _ HB1.out.size))
    clear hk2 hb2
    obtain ⟨o, ho⟩ : ∃ o, o = isOf x n := ⟨_, rfl⟩
    rw [← ho]
    clear ho
    go_wp2_with fail
    go_loopg [9, 10] 0 (fun q ok i wr => ok = .bool o ∧ i = .int .i64 0 ∧ Below w.heap.size w wr)
    case atStart => exact ⟨rfl, rfl, HB2.out⟩
    case round =>
      obtain ⟨rfl, rfl, hbw⟩ := hrel
      have HE2 := Lib.hid (HE.out wr hbw)
      clear hbw
      cases o with
      | false =>
        go_wp2_with fail
        go_ret2
        exact HE2.out
      | true =>
        go_wp2_with fail
        go_loopg [13] 0 (fun q i wr' => i = .int .i64 0 ∧ wr' = wr)
        case atStart => exact ⟨rfl, rfl⟩
        case round =>
          obtain ⟨rfl, rfl⟩ := hrel
          go_wp2_with fail
          go_ret2
          exact HE2.out
  · obtain ⟨k, hk⟩ : ∃ k, k = L.length := ⟨_, rfl⟩
    have hk0 : (L.length == 0) = false := by rw [beq_eq_false_iff_ne]; omega
    have eOk : farOk x n L = allTo x n L k := by rw [farOk, hk0, hk, allTo_all]; simp
    have eZ : farZ x n L = if allTo x n L k = true then (farAt x n L k).1 else 0 := by rw [farZ, eOk, hk]
    have F := first_is x n L hpos
    rw [eZ, eOk] at eP
    rw [← hk] at hpos hc1 hcell F hr ⊢
    have hkm : k ≤ 9223372036854775807 := by unfold maxLen at hc2; omega
    have HE := Lib.hid eP
    have HP := Lib.hid P
    have HG := Lib.hid G
    have HF := Lib.hid F
    have HR := Lib.hid hr
    have HCL := Lib.hid hcell
    have HKL := Lib.hid hk
    clear P G F eP eZ eOk hk0 hr hcell hk h1 h2
    go_enter Try.func22, Try.ntmps22
    go_wp2_with fail
    refine (HP.out _ _).mono ?_
    rintro e w1 ⟨rfl, hb1⟩
    have HB1 := Lib.hid hb1
    clear hb1
    go_wp2_with (refine wpList_store_blk rfl 29 (.tmp 8) (.tmp 24) rfl w1.heap.size #[.int .i64 (plX x n), .int .i64 (plY x n)] rfl rfl _ _ (Blk.new _ _ _) (by kernel_rfl) rfl rfl ?_)
    rintro w2 hk2 hb2 - -
    have HB2 := Lib.hid ((HB1.out.alloc HB1.out.size _).trans (hb2 _ HB1.out.size))
    clear hk2 hb2
    go_wp2_with fail
    go_loopg [9, 10] k (fun q ok i wr => ∃ r : Nat, r + q = k ∧ i = .int .i64 (r : Int) ∧ ok = .bool (allTo x n L r) ∧ Below w.heap.size w wr)
    case atStart => exact ⟨0, by omega, rfl, rfl, HB2.out⟩
    case round =>
      obtain ⟨r, hr, rfl, rfl, hbw⟩ := hrel
      have HBW := Lib.hid hbw
      by_cases hrk : r < k
      · have c0 := Eq.trans (hbw.cell (by exact hb)) (HCL.out r hrk)
        have ea : allTo x n L (r + 1) = (allTo x n L r && isOf (L.getD r 0) n) := rfl
        have hP := HP.out (L.getD r 0)
        obtain ⟨z, hz⟩ : ∃ z, z = L.getD r 0 := ⟨_, rfl⟩
        rw [← hz] at c0 ea hP
        obtain ⟨o, ho⟩ : ∃ o, o = isOf z n := ⟨_, rfl⟩
        rw [← ho] at ea hP
        obtain ⟨a, ha⟩ : ∃ a, a = allTo x n L r := ⟨_, rfl⟩
        rw [← ha] at ea ⊢
        have HP1 := Lib.hid hP
        have HEA := Lib.hid ea
        clear hP ea hz ho ha hbw
        go_wp2_with fail
        refine (HP1.out _).mono ?_
        rintro e w3 ⟨rfl, hb3⟩
        have HB3 := Lib.hid (Below.next HBW.out hb3)
        clear hb3
        go_wp2_with (refine wpList_store_blk rfl 29 (.tmp 11) (.tmp 39) rfl w3.heap.size #[.int .i64 (plX z n), .int .i64 (plY z n)] rfl rfl _ _ (Blk.new _ _ _) (by kernel_rfl) rfl rfl ?_)
        rintro w4 hk4 hb4 - -
        have HB4 := Lib.hid ((HB3.out.alloc HB3.out.size _).trans (hb4 _ HB3.out.size))
        clear hk4 hb4
        cases a with
        | true =>
          have HEB := Lib.hid (HEA.out.trans (Bool.true_and o))
          go_wp2_with fail
          go_roundg (gk - 1)
          case measure => omega
          case rel => exact ⟨r + 1, by omega, by go_num, by rw [HEB.out], HB4.out⟩
        | false =>
          have HEB := Lib.hid (HEA.out.trans (Bool.false_and o))
          go_wp2_with fail
          go_roundg (gk - 1)
          case measure => omega
          case rel => exact ⟨r + 1, by omega, by go_num, by rw [HEB.out], HB4.out⟩
      · obtain rfl : r = k := by omega
        obtain ⟨a, ha⟩ : ∃ a, a = allTo x n L r := ⟨_, rfl⟩
        rw [← ha] at HE ⊢
        clear ha
        cases a with
        | false =>
          have HE2 := Lib.hid ((HE.out (.returned (.tuple #[.int .i64 0, .bool false])) wr).2 ⟨rfl, HBW.out⟩)
          go_wp2_with fail
          go_ret2
          exact HE2.out
        | true =>
          obtain ⟨i0, hi0, hf0, hf1, hf2⟩ := HF.out
          have HE2 := Lib.hid (fun w1 h => (HE.out (.returned (.tuple #[.int .i64 (L.getD i0 0), .bool true])) w1).2 ⟨by rw [if_pos rfl, hf0], h⟩)
          have HF1 := Lib.hid hf1
          have HF2 := Lib.hid hf2
          clear hf0 hf1 hf2
          go_wp2_with fail
          go_loopg [13] r (fun q i wr' => ∃ r2 : Nat, r2 + q = r ∧ r2 ≤ i0 ∧ i = .int .i64 (r2 : Int) ∧ Below w.heap.size w wr')
          case atStart => exact ⟨0, by omega, by omega, rfl, HBW.out⟩
          case round =>
            obtain ⟨r2, hr2, hri, rfl, hbw2⟩ := hrel
            obtain ⟨g2, rfl⟩ : ∃ g2, g2 = gk := ⟨_, rfl⟩
            obtain ⟨wo, rfl⟩ : ∃ wo : World, wo = wr := ⟨_, rfl⟩
            have hrk2 : r2 < r := by omega
            have HBW2 := Lib.hid hbw2
            have c0 := Eq.trans (hbw2.cell (by exact hb)) (HCL.out r2 hrk2)
            have HC0 := Lib.hid (HCL.out r2 hrk2)
            have hG := HG.out (L.getD r2 0)
            have hgb := gapZ_bd x (L.getD r2 0) n
            obtain ⟨z, hz⟩ : ∃ z, z = L.getD r2 0 := ⟨_, rfl⟩
            have HZ := Lib.hid hz
            rw [← hz] at hG hgb c0 HC0
            obtain ⟨g, hg⟩ : ∃ g, g = gapZ x z n := ⟨_, rfl⟩
            have HGE := Lib.hid hg
            rw [← hg] at hG hgb
            have HG1 := Lib.hid hG
            clear hG hz hg hbw2
            go_wp2_with fail
            refine (HG1.out _).mono ?_
            rintro e w5 ⟨rfl, hb5⟩
            have HB5 := Lib.hid (Below.next HBW2.out hb5)
            clear hb5
            go_wp2_with fail
            go_loopg [16, 17] r (fun q f j wr3 => ∃ s : Nat, s + q = r ∧ j = .int .i64 (s : Int) ∧ f = .bool (firstB x n L r2 s) ∧ Below w.heap.size w wr3)
            case atStart => exact ⟨0, by omega, rfl, rfl, HB5.out⟩
            case round =>
              obtain ⟨s, hs, rfl, rfl, hbw3⟩ := hrel
              have HBW3 := Lib.hid hbw3
              by_cases hsr : s < r
              · have c1 := Eq.trans (hbw3.cell (by exact hb)) (HCL.out s hsr)
                have hG := HG.out (L.getD s 0)
                have hgb' := gapZ_bd x (L.getD s 0) n
                have ef : firstB x n L r2 (s + 1) = (firstB x n L r2 s && !(decide (gapZ x (L.getD r2 0) n < gapZ x (L.getD s 0) n) || (decide (s < r2) && decide (gapZ x (L.getD s 0) n = gapZ x (L.getD r2 0) n)))) := rfl
                rw [← HZ.out, ← HGE.out] at ef
                obtain ⟨y, hy⟩ : ∃ y, y = L.getD s 0 := ⟨_, rfl⟩
                rw [← hy] at hG hgb' c1 ef
                obtain ⟨h, hh⟩ : ∃ g, g = gapZ x y n := ⟨_, rfl⟩
                rw [← hh] at hG hgb' ef
                obtain ⟨fb, hfb⟩ : ∃ b, b = firstB x n L r2 s := ⟨_, rfl⟩
                rw [← hfb] at ef ⊢
                have HG2 := Lib.hid hG
                have HEF := Lib.hid ef
                clear hG hy hh hfb ef hbw3 c0
                go_wp2_with fail
                refine (HG2.out _).mono ?_
                rintro e w6 ⟨rfl, hb6⟩
                have HB6 := Lib.hid (Below.next HBW3.out hb6)
                clear hb6
                by_cases c1 : g < h
                · have ev := HEF.out
                  rw [decide_eq_true c1, Bool.true_or, Bool.not_true, Bool.and_false] at ev
                  have HEV := Lib.hid ev
                  clear ev
                  go_wp2_with fail
                  go_roundg (gk - 1)
                  case measure => omega
                  case rel => exact ⟨s + 1, by omega, by go_num, by rw [HEV.out], HB6.out⟩
                · by_cases c2 : s < r2
                  · by_cases c3 : h = g
                    · have ev := HEF.out
                      rw [decide_eq_false c1, decide_eq_true c2, decide_eq_true c3, Bool.true_and, Bool.false_or, Bool.not_true, Bool.and_false] at ev
                      have HEV := Lib.hid ev
                      have hb' : (h == g) = true := beq_iff_eq.2 c3
                      clear ev c3
                      go_wp2_with fail
                      go_roundg (gk - 1)
                      case measure => omega
                      case rel => exact ⟨s + 1, by omega, by go_num, by rw [HEV.out], HB6.out⟩
                    · have ev := HEF.out
                      rw [decide_eq_false c1, decide_eq_true c2, decide_eq_false c3, Bool.true_and, Bool.false_or, Bool.not_false, Bool.and_true] at ev
                      have HEV := Lib.hid ev
                      have hb' : (h == g) = false := beq_eq_false_iff_ne.2 c3
                      clear ev c3
                      go_wp2_with fail
                      go_roundg (gk - 1)
                      case measure => omega
                      case rel => exact ⟨s + 1, by omega, by go_num, by rw [HEV.out], HB6.out⟩
                  · have ev := HEF.out
                    rw [decide_eq_false c1, decide_eq_false c2, Bool.false_and, Bool.false_or, Bool.not_false, Bool.and_true] at ev
                    have HEV := Lib.hid ev
                    clear ev
                    go_wp2_with fail
                    go_roundg (gk - 1)
                    case measure => omega
                    case rel => exact ⟨s + 1, by omega, by go_num, by rw [HEV.out], HB6.out⟩
              · obtain rfl : s = r := by omega
                have c1 := Eq.trans (hbw3.cell (by exact hb)) (HCL.out r2 hrk2)
                rw [← HZ.out] at c1
                clear c0 hbw3
                by_cases hlt : r2 < i0
                · rw [HF2.out r2 hlt]
                  go_wp2_with fail
                  go_roundg (g2 - 1)
                  case measure => omega
                  case rel => exact ⟨r2 + 1, by omega, by omega, by go_num, HBW3.out⟩
                · obtain rfl : r2 = i0 := by omega
                  rw [HF1.out]
                  have HE3 := Lib.hid (HE2.out _ HBW3.out)
                  rw [← HZ.out] at HE3
                  go_wp2_with fail
                  go_ret2
                  exact HE3.out
end Go.Proofs.Ytbjfacfphgnhpaa
