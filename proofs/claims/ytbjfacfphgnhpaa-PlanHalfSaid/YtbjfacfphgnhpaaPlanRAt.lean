/- Walks: the reference's At. -/
import Derived.Test.YtbjfacfphgnhpaaPlanTurn
namespace Go.Proofs.Ytbjfacfphgnhpaa
open Go.RowKit WalkM FloatM
set_option linter.unusedVariables false
theorem at_none {X Y n : Int} (h : ∀ x, isOf x n = true → ¬ (plX x n = X ∧ plY x n = Y)) : atZ X Y n = none := by
  cases e : atZ X Y n with
  | none => rfl
  | some x =>
    obtain ⟨a, b⟩ := at_sound e
    exact absurd b (h x a)
set_option maxRecDepth 100000 in
set_option maxHeartbeats 4000000 in
theorem rat_any (X Y n : Int) (w : World) (h1 : -9223372036854775808 ≤ n) (h2 : n ≤ 9223372036854775807) :
    Calls Try.prog 48 #[.agg #[.int .i64 X, .int .i64 Y], .int .i64 n] w (TurnP (atZ X Y n) w) := by
  have F := rfits_any n
  have P := fun x w => rplace_any x n w h1 h2
  unfold RPlaceP at P
  have eP : ∀ e w', TurnP (atZ X Y n) w e w' ↔ e = .returned (.tuple #[.int .i64 ((atZ X Y n).getD 0), .bool (atZ X Y n).isSome]) ∧ Below w.heap.size w w' := fun _ _ => Iff.rfl
  have hb0 : Below w.heap.size w (w.alloc (.cells #[.int .i64 X, .int .i64 Y] 29)) := (Below.refl _ _).alloc (Nat.le_refl _) _
  by_cases hf : fits n.toNat = true
  · rw [hf] at F
    have hs := fits_small hf
    have hN := at_none (X := X) (Y := Y) (n := n)
    have hI := fun x (h : isOf x n = true) => (at_is (X := X) (Y := Y) h).1
    have hO : ∀ x, isOf x n = true ↔ (0 ≤ x ∧ x ≤ 2 * n - 2) := by intro x; rw [isOf, hf, Bool.true_and, decide_eq_true_iff]
    obtain ⟨R, hR⟩ : ∃ R, R = atZ X Y n := ⟨_, rfl⟩
    rw [← hR] at eP hN hI ⊢
    obtain ⟨m, hm⟩ : ∃ m : Nat, n = (m : Int) + 1 := ⟨(n - 1).toNat, by omega⟩
    have hm16 : m ≤ 65535 := by omega
    have hB0 := Lib.hid hb0
    have HEP := Lib.hid eP
    have HF := Lib.hid F
    have HP := Lib.hid P
    have HN := Lib.hid hN
    have HI := Lib.hid hI
    have HO := Lib.hid hO
    have HM := Lib.hid hm
    have hn1 : 1 ≤ n := by omega
    have hn2 : n ≤ 65536 := by omega
    clear eP F P hN hI hO hR hf hs hb0 hm
    go_enter Try.func48, Try.ntmps48
    go_wp2_with fail
    refine (HF.out _).mono ?_
    rintro e w' ⟨rfl, rfl⟩
    go_wp2_with fail
    go_loopg [6] (2 * m + 1) (fun q i wr => ∃ r : Nat, r + q = 2 * m + 1 ∧ i = .int .i64 (r : Int) ∧ (∀ j : Nat, j < r → ¬ (plX (j : Int) n = X ∧ plY (j : Int) n = Y)) ∧ Blk wr w.heap.size 29 #[.int .i64 X, .int .i64 Y] ∧ Below w.heap.size w wr)
    case atStart => exact ⟨0, by omega, rfl, fun j h => absurd h (by omega), Blk.new _ _ _, hB0.out⟩
    case round =>
      obtain ⟨r, hr, rfl, hno, hk, hbw⟩ := hrel
      have HNO := Lib.hid hno
      have HK := Lib.hid hk
      have HBW := Lib.hid hbw
      clear hno hk hbw
      by_cases hrm : r < 2 * m + 1
      · have hle : (r : Int) ≤ 2 * n - 2 := by have := HM.out; omega
        have hP := HP.out (r : Int)
        have ho : isOf (r : Int) n = true := (HO.out _).2 ⟨by omega, hle⟩
        have hI := HI.out (r : Int) ho
        rw [ho] at hP
        obtain ⟨U, hU⟩ : ∃ U, U = plX (r : Int) n := ⟨_, rfl⟩
        obtain ⟨V, hV⟩ : ∃ U, U = plY (r : Int) n := ⟨_, rfl⟩
        rw [← hU, ← hV] at hP hI
        have HP1 := Lib.hid hP
        have HI1 := Lib.hid hI
        have HU := Lib.hid hU
        have HV := Lib.hid hV
        clear hP hI hU hV ho
        go_wp2_with fail
        refine (HP1.out _).mono ?_
        rintro e w3 ⟨rfl, hb3⟩
        have HB3 := Lib.hid (Below.next HBW.out hb3)
        have HK3 := Lib.hid ((HK.out.below hb3 HK.out.lt).alloc (.cells #[.int .i64 0, .int .i64 0] 29))
        have hlt3 : w.heap.size < w3.heap.size := by have a := HK.out.lt; have b := hb3.size; omega
        clear hb3
        go_wp2_with (refine wpList_store_blk rfl 29 (.tmp 7) (.tmp 23) rfl w3.heap.size #[.int .i64 U, .int .i64 V] rfl rfl _ _ (Blk.new _ _ _) (by kernel_rfl) rfl rfl ?_)
        rintro w4 hk4 hb4 hot hsz
        have HK4 := Lib.hid ((hot _ (by omega)).trans HK3.out)
        have HB4 := Lib.hid ((HB3.out.alloc HB3.out.size _).trans (hb4 _ HB3.out.size))
        have y0 := hk4.cell 0
        have y1 := hk4.cell 1
        have y2 := (show Blk w4 w.heap.size _ _ from HK4.out).cell 0
        have y3 := (show Blk w4 w.heap.size _ _ from HK4.out).cell 1
        simp only [List.getElem?_toArray, List.getElem?_cons_zero, List.getElem?_cons_succ] at y0 y1 y2 y3
        clear hk4 hb4 hot hsz
        by_cases hu : U = X
        · have b1 : (U == X) = true := beq_iff_eq.2 hu
          by_cases hv : V = Y
          · have b2 : (V == Y) = true := beq_iff_eq.2 hv
            have hR := HI1.out ⟨hu, hv⟩
            have HE := Lib.hid ((HEP.out (.returned (.tuple #[.int .i64 (r : Int), .bool true])) w4).2 ⟨by rw [hR]; rfl, HB4.out⟩)
            clear hu hv hR
            go_wp2_with fail
            go_ret2
            exact HE.out
          · have b2 : (V == Y) = false := beq_eq_false_iff_ne.2 hv
            have HNV := Lib.hid hv
            clear hu hv
            go_wp2_with fail
            go_roundg (gk - 1)
            case measure => omega
            case rel =>
              refine ⟨r + 1, by omega, by go_num, ?_, HK4.out, HB4.out⟩
              intro j hj hh
              rcases Nat.lt_or_ge j r with h | h
              · exact HNO.out j h hh
              · obtain rfl : j = r := by omega
                exact HNV.out (by rw [HV.out]; exact hh.2)
        · have b1 : (U == X) = false := beq_eq_false_iff_ne.2 hu
          have HNU := Lib.hid hu
          clear hu
          go_wp2_with fail
          go_roundg (gk - 1)
          case measure => omega
          case rel =>
            refine ⟨r + 1, by omega, by go_num, ?_, HK4.out, HB4.out⟩
            intro j hj hh
            rcases Nat.lt_or_ge j r with h | h
            · exact HNO.out j h hh
            · obtain rfl : j = r := by omega
              exact HNU.out (by rw [HU.out]; exact hh.1)
      · have hle : ¬ (r : Int) ≤ 2 * n - 2 := by have := HM.out; omega
        have hle2 : 2 * n - 2 < (r : Int) := by omega
        have hR := HN.out (fun x hx hh => by
          have hx2 := (HO.out x).1 hx
          have := HM.out
          obtain ⟨j, rfl⟩ : ∃ j : Nat, x = (j : Int) := ⟨x.toNat, by omega⟩
          exact HNO.out j (by omega) hh)
        have HE := Lib.hid ((HEP.out (.returned (.tuple #[.int .i64 0, .bool false])) wr).2 ⟨by rw [hR]; rfl, HBW.out⟩)
        clear hle hR
        go_wp2_with fail
        go_ret2
        exact HE.out
  · have hf' : fits n.toNat = false := by rw [← Bool.not_eq_true]; exact hf
    have eR : atZ X Y n = none := by rw [atZ, if_neg hf]
    rw [eR] at eP ⊢
    rw [hf'] at F
    have HE := Lib.hid ((eP (.returned (.tuple #[.int .i64 0, .bool false])) _).2 ⟨rfl, hb0⟩)
    have HF := Lib.hid F
    clear F P eP hf hf' eR hb0
    go_enter Try.func48, Try.ntmps48
    go_wp2_with fail
    refine (HF.out _).mono ?_
    rintro e w' ⟨rfl, rfl⟩
    go_wp2_with fail
    go_ret2
    exact HE.out
end Go.Proofs.Ytbjfacfphgnhpaa
