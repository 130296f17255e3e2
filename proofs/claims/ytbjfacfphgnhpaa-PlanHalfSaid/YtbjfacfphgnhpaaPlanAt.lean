/- Walks: plan.side, plan.At. -/
import Derived.Test.YtbjfacfphgnhpaaPlanAtMath
import Derived.Test.YtbjfacfphgnhpaaFloatMore
namespace Go.Proofs.Ytbjfacfphgnhpaa
open Go.RowKit WalkM FloatM
set_option linter.unusedVariables false
theorem order_lt {x y : Nat} {a b : Int} (hx : IsF x a) (hy : IsF y b) : (FloatKind.f64.format.order x y == some .lt) = decide (a < b) := by
  have h : FloatKind.f64.format.order x y = some (compare a b) := isF_order hx hy
  rw [h]
  by_cases e : a < b
  · rw [Int.compare_eq_lt.2 e, decide_eq_true e]; rfl
  · rw [decide_eq_false e]
    rcases Int.lt_or_eq_of_le (show b ≤ a by omega) with h1 | h1
    · rw [Int.compare_eq_gt.2 h1]; rfl
    · rw [Int.compare_eq_eq.2 h1.symm]; rfl
theorem order_gt {x y : Nat} {a b : Int} (hx : IsF x a) (hy : IsF y b) : (FloatKind.f64.format.order x y == some .gt) = decide (b < a) := by
  have h : FloatKind.f64.format.order x y = some (compare a b) := isF_order hx hy
  rw [h]
  by_cases e : b < a
  · rw [Int.compare_eq_gt.2 e, decide_eq_true e]; rfl
  · rw [decide_eq_false e]
    rcases Int.lt_or_eq_of_le (show a ≤ b by omega) with h1 | h1
    · rw [Int.compare_eq_lt.2 h1]; rfl
    · rw [Int.compare_eq_eq.2 h1]; rfl
set_option maxRecDepth 100000 in
set_option maxHeartbeats 1000000 in
theorem side_any (re im k : Nat) (hk : k ≤ 16) (w : World) :
    Calls Try.prog 61 #[.complex .f64 re im, .int .i64 (k : Nat)] w fun e w' => e = .returned (.float .f64 (if k % 2 = 0 then im else re)) ∧ w = w' := by
  by_cases h : k % 2 = 0
  · rw [if_pos h]
    have ht : ((k : Int) % 2 == 0) = true := by rw [beq_iff_eq]; omega
    clear h
    go_enter Try.func61, Try.ntmps61
    go_wp2_with fail
    go_ret
    exact ⟨rfl, rfl⟩
  · rw [if_neg h]
    have ht : ((k : Int) % 2 == 0) = false := by rw [beq_eq_false_iff_ne]; omega
    clear h
    go_enter Try.func61, Try.ntmps61
    go_wp2_with fail
    go_ret
    exact ⟨rfl, rfl⟩
theorem left_lev {c k : Nat} (h : IsLev c (k + 1)) (hc : c ≤ 131070) : leftZ (c : Int) = ((c - 2 ^ k : Nat) : Int) ∧ rightZ (c : Int) = ((c + 2 ^ k : Nat) : Int) := by
  have hl := lev_eq hc h
  have h0 := (kids_of h).1
  have hh : halfZ (c : Int) = ((2 ^ k : Nat) : Int) := by
    rw [halfZ, levZ_nat hc, hl, if_pos (by omega), show (((k + 1 : Nat) : Int) - 1).toNat = k by omega]
    simp
  have hp := pow_pos' k
  rw [leftZ, rightZ, hh, if_neg (by omega), if_neg (by omega)]
  omega
def AtJ (n : Int) (R : Option Int) (w : World) (a' : Act) (w' : World) : Prop :=
  ∃ (k c re im : Nat) (X Y : Int), k ≤ 16 ∧ IsLev c k ∧ c + 2 ^ k ≤ 131071 ∧ IsF re X ∧ IsF im Y ∧ (-(70000 - 128 * (k : Int)) ≤ X ∧ X ≤ 70000 - 128 * (k : Int)) ∧ (-(70000 - 128 * (k : Int)) ≤ Y ∧ Y ≤ 70000 - 128 * (k : Int)) ∧ R = (atO k X Y).map (fun o => (c : Int) + o) ∧ w = w' ∧
  ∃ (x2 x3 x4 x5 x7 x8 x9 x10 x11 x12 x13 x14 x15 x16 x17 x18 x19 x20 x21 x22 x23 x24 x25 x26 x27 x28 x29 x30 x31 x32 x33 x34 x35 x36 x37 x38 x39 x40 x41 x42 x43 x44 x45 : Value), a' = { tmps := #[.complex .f64 re im, .int .i64 n, x2, x3, x4, x5, .int .i64 (c : Nat), x7, x8, x9, x10, x11, x12, x13, x14, x15, x16, x17, x18, x19, x20, x21, x22, x23, x24, x25, x26, x27, x28, x29, x30, x31, x32, x33, x34, x35, x36, x37, x38, x39, x40, x41, x42, x43, x44, x45], defers := [] }
def AtP (R : Option Int) (w : World) (e : Ending) (w' : World) : Prop := e = .returned (.tuple #[.int .i64 (R.getD 0), .bool R.isSome]) ∧ w = w'
theorem isF_self {a : Nat} {X : Int} (h : IsF a X) : (FloatKind.f64.format.order a a == some .eq) = true := by rw [order_eq h h]; simp
set_option maxRecDepth 100000 in
set_option maxHeartbeats 4000000 in
theorem pat_on (d re im : Nat) (X Y : Int) (hd : d ≤ 16) (hre : IsF re X) (him : IsF im Y) (hX : -65536 ≤ X ∧ X ≤ 65536) (hY : -65536 ≤ Y ∧ Y ≤ 65536) (w : World) :
    Calls Try.prog 50 #[.complex .f64 re im, .int .i64 ((2 ^ d : Nat) : Int)] w (AtP (atZ X Y ((2 ^ d : Nat) : Int)) w) := by
  have b0 : 0 ≤ ((2 ^ d : Nat) : Int) := Int.natCast_nonneg _
  have b1 : ((2 ^ d : Nat) : Int) ≤ 65536 := by have h := two_pow_le hd; generalize 2 ^ d = p at h ⊢; omega
  have ROOT := fun w => root_any ((2 ^ d : Nat) : Int) w (by omega) (by omega)
  have er : rootZ ((2 ^ d : Nat) : Int) = ((2 ^ d - 1 : Nat) : Int) := by
    rw [rootZ, if_pos (fits_pow hd)]
    have := pow_pos' d
    omega
  rw [er] at ROOT
  have hR : atZ X Y ((2 ^ d : Nat) : Int) = (atO d X Y).map (fun o => ((2 ^ d - 1 : Nat) : Int) + o) := by
    rw [atZ, if_pos (fits_pow hd), Int.toNat_natCast, Nat.log2_two_pow]
    have := pow_pos' d
    congr 1
    funext o
    omega
  have hrl := root_lev d
  have hrb : 2 ^ d - 1 + 2 ^ d ≤ 131071 := by have := two_pow_le hd; omega
  obtain ⟨R, hRR⟩ : ∃ R, R = atZ X Y ((2 ^ d : Nat) : Int) := ⟨_, rfl⟩
  rw [← hRR] at hR ⊢
  obtain ⟨c, hc⟩ : ∃ c, c = 2 ^ d - 1 := ⟨_, rfl⟩
  rw [← hc] at ROOT hR hrl hrb
  obtain ⟨n, hn⟩ : ∃ n, n = ((2 ^ d : Nat) : Int) := ⟨_, rfl⟩
  rw [← hn] at ROOT ⊢
  have eP : ∀ e w', AtP R w e w' ↔ e = .returned (.tuple #[.int .i64 (R.getD 0), .bool R.isSome]) ∧ w = w' := fun _ _ => Iff.rfl
  have HEP := Lib.hid eP
  have s1 := isF_self hre
  have s2 := isF_self him
  have HROOT := Lib.hid ROOT
  have HR := Lib.hid hR
  have HRE := Lib.hid hre
  have HIM := Lib.hid him
  have HRL := Lib.hid hrl
  have HRB := Lib.hid hrb
  have hc0 : 0 ≤ (c : Int) := by omega
  clear b0 b1 ROOT er hR hre him hrl hrb hRR hc hn eP
  go_enter Try.func50, Try.ntmps50
  go_wp2_with fail
  refine wp_scope_label' 0 (AtJ n R w) (fun ac _ => lev (intOf (ac.tmps.getD 6 undef)).toNat) rfl ?_ ?_
  · rintro ac wx ⟨k, c, re, im, X, Y, hk, hcl, hcb, hre, him, hX, hY, hR, rfl, hf⟩
    iterate 43 (obtain ⟨_, hf⟩ := hf)
    subst hf
    have hc17 : c ≤ 131070 := by have := pow_pos' k; omega
    have hlv := lev_eq hc17 hcl
    have L := level_any (c : Int)
    rw [levZ_nat hc17, hlv] at L
    have z1 := order_eq hre isF_zero
    have z2 := order_eq him isF_zero
    have eP : ∀ e w', AtP R w e w' ↔ e = .returned (.tuple #[.int .i64 (R.getD 0), .bool R.isSome]) ∧ w = w' := fun _ _ => Iff.rfl
    by_cases hz : X = 0 ∧ Y = 0
    · obtain ⟨rfl, rfl⟩ := hz
      rw [decide_eq_true rfl] at z1 z2
      rw [atO_zero, Option.map_some, Int.add_zero] at hR
      have HE := Lib.hid ((eP (.returned (.tuple #[.int .i64 (c : Int), .bool true])) w).2 ⟨by rw [hR]; rfl, rfl⟩)
      clear eP hR hX hY hre him hcl hcb L hlv
      go_wp2_with fail
      simp only [Exit.jump]
      go_ret2
      exact HE.out
    · have HRE := Lib.hid hre
      have HIM := Lib.hid him
      have HX := Lib.hid hX
      have HY := Lib.hid hY
      have HLV := Lib.hid hlv
      have hz' : (X ≠ 0 ∧ (FloatKind.f64.format.order re 0 == some .eq) = false) ∨ ((FloatKind.f64.format.order re 0 == some .eq) = true ∧ (FloatKind.f64.format.order im 0 == some .eq) = false) := by
        by_cases hx : X = 0
        · right
          exact ⟨by rw [z1, decide_eq_true hx], by rw [z2, decide_eq_false (fun h => hz ⟨hx, h⟩)]⟩
        · left
          exact ⟨hx, by rw [z1, decide_eq_false hx]⟩
      cases k with
      | zero =>
        rw [atO, if_neg hz, Option.map_none] at hR
        have HE := Lib.hid ((eP (.returned (.tuple #[.int .i64 0, .bool false])) w).2 ⟨by rw [hR]; rfl, rfl⟩)
        have HL := Lib.hid L
        clear eP hR hX hY hre him hcl hcb L hlv z1 z2 hz
        rcases hz' with ⟨_, z1⟩ | ⟨z1, z2⟩
        all_goals
          go_wp2_with fail
          refine (HL.out _).mono ?_
          rintro e w' ⟨rfl, rfl⟩
          go_wp2_with fail
          simp only [Exit.jump]
          go_ret2
          exact HE.out
      | succ k =>
        obtain ⟨lz, rz⟩ := left_lev hcl hc17
        obtain ⟨c0, kl, kr, _, _⟩ := kids_of hcl
        have LF := left_any (c : Int)
        have RT := right_any (c : Int)
        rw [lz] at LF
        rw [rz] at RT
        have e2 := dbl k
        have b1 : c - 2 ^ k + 2 ^ k ≤ 131071 := by omega
        have b2 : c + 2 ^ k + 2 ^ k ≤ 131071 := by omega
        have hp0 := pow_pos' k
        have v1 := lev_eq (x := c - 2 ^ k) (by omega) kl
        have v2 := lev_eq (x := c + 2 ^ k) (by omega) kr
        have SD := side_any re im (k + 1) hk
        have ST := fun w => stride_any ((k + 1 : Nat) : Int) w
        have hsx := strX_bd ((k + 1 : Nat) : Int)
        have hsy := strY_bd ((k + 1 : Nat) : Int)
        have hsd : IsF (if (k + 1) % 2 = 0 then im else re) (sideZ (k + 1) X Y) := by
          unfold sideZ
          by_cases h : (k + 1) % 2 = 0
          · rw [if_pos h, if_pos h]; exact him
          · rw [if_neg h, if_neg h]; exact hre
        obtain ⟨sd, hsdd⟩ : ∃ s, s = if (k + 1) % 2 = 0 then im else re := ⟨_, rfl⟩
        rw [← hsdd] at SD hsd
        have f1 := order_lt hsd isF_zero
        have f2 := order_gt hsd isF_zero
        rw [atO, if_neg hz] at hR
        obtain ⟨S, hS⟩ : ∃ s, s = sideZ (k + 1) X Y := ⟨_, rfl⟩
        rw [← hS] at f1 f2 hR
        obtain ⟨U, hU⟩ : ∃ u, u = strX ((k + 1 : Nat) : Int) := ⟨_, rfl⟩
        obtain ⟨V, hV⟩ : ∃ u, u = strY ((k + 1 : Nat) : Int) := ⟨_, rfl⟩
        rw [← hU] at ST hR hsx
        rw [← hV] at ST hR hsy
        have cst : ((k + 1 : Nat) : Int) = (k : Int) + 1 := rfl
        rw [cst] at L SD ST HX HY
        have l0 : ((k : Int) + 1 == 0) = false := by rw [beq_eq_false_iff_ne]; omega
        have HL := Lib.hid L
        have HSD := Lib.hid SD
        have HST := Lib.hid ST
        have HSX := Lib.hid hsx
        have HSY := Lib.hid hsy
        have hS3 : S < 0 ∨ (¬ S < 0 ∧ 0 < S) ∨ (¬ S < 0 ∧ ¬ 0 < S) := by omega
        rcases hS3 with h | ⟨h', h⟩ | ⟨h', h⟩
        · obtain ⟨c', hc'⟩ : ∃ c', c' = c - 2 ^ k := ⟨_, rfl⟩
          have hcc : ((c' : Nat) : Int) + ((2 ^ k : Nat) : Int) = c := by omega
          rw [← hc'] at LF kl b1 v1
          rw [if_pos h, Option.map_map] at hR
          have hR2 : R = (atO k (X + U) (Y + V)).map (fun o => (c' : Int) + o) := by
            rw [hR]; congr 1; funext o; simp only [Function.comp]; omega
          rw [decide_eq_true h] at f1
          have HR2 := Lib.hid hR2
          have HLF := Lib.hid LF
          have HCL := Lib.hid kl
          have HCB := Lib.hid b1
          have HLV' := Lib.hid v1
          have hc'0 : 0 ≤ (c' : Int) := by omega
          clear eP hR hX hY hre him hcl hcb L hlv z1 z2 hz lz rz LF RT e2 b1 b2 hp0 v1 v2 SD ST hsx hsy hsd hsdd f2 hS hU hV cst h kl kr hc' hcc hR2 c0
          rcases hz' with ⟨_, z1⟩ | ⟨z1, z2⟩
          all_goals
            go_wp2_with fail
            refine (HL.out _).mono ?_
            rintro e w' ⟨rfl, rfl⟩
            go_wp2_with fail
            refine (HSD.out _).mono ?_
            rintro e w' ⟨rfl, rfl⟩
            go_wp2_with fail
            refine (HLF.out _).mono ?_
            rintro e w' ⟨rfl, rfl⟩
            go_wp2_with fail
            refine (HST.out _).mono ?_
            rintro e w' ⟨v, rfl, ⟨re2, im2, rfl, q1, q2⟩, rfl⟩
            obtain ⟨re3, im3, hs, k3, k4⟩ := csum (op := .add) (.inl rfl) HRE.out HIM.out q1 q2 (by have := HX.out; omega) (by have := HY.out; omega) (by have := HSX.out; omega) (by have := HSY.out; omega)
            have hrun := fun w => run_complex_sum (P := Try.prog) w .add (.inl rfl) 25 .f64 _ _ _ _ _ _ hs
            rw [if_pos rfl] at k3 k4
            have K3 := Lib.hid k3
            have K4 := Lib.hid k4
            clear hs q1 q2 k3 k4
            go_wp2_with fail
            refine wp_goto ⟨rfl, ⟨k, c', re3, im3, _, _, by omega, HCL.out, HCB.out, K3.out, K4.out, by have := HX.out; have := HSX.out; omega, by have := HY.out; have := HSY.out; omega, HR2.out, rfl, _, _, _, _, _, _, _, _, _, _, _, _, _, _, _, _, _, _, _, _, _, _, _, _, _, _, _, _, _, _, _, _, _, _, _, _, _, _, _, _, _, _, _, rfl⟩, ?_⟩
            show lev ((c' : Int)).toNat < lev ((c : Int)).toNat
            rw [Int.toNat_natCast, Int.toNat_natCast, HLV'.out, HLV.out]
            omega
        · obtain ⟨c', hc'⟩ : ∃ c', c' = c + 2 ^ k := ⟨_, rfl⟩
          have hcc : ((c' : Nat) : Int) - ((2 ^ k : Nat) : Int) = c := by omega
          rw [← hc'] at RT kr b2 v2
          rw [if_neg h', if_pos h, Option.map_map] at hR
          have hR2 : R = (atO k (X - U) (Y - V)).map (fun o => (c' : Int) + o) := by
            rw [hR]; congr 1; funext o; simp only [Function.comp]; omega
          rw [decide_eq_false h'] at f1
          rw [decide_eq_true h] at f2
          have HR2 := Lib.hid hR2
          have HLF := Lib.hid RT
          have HCL := Lib.hid kr
          have HCB := Lib.hid b2
          have HLV' := Lib.hid v2
          have hc'0 : 0 ≤ (c' : Int) := by omega
          clear eP hR hX hY hre him hcl hcb L hlv z1 z2 hz lz rz LF RT e2 b1 b2 hp0 v1 v2 SD ST hsx hsy hsd hsdd hS hU hV cst h h' kl kr hc' hcc hR2 c0
          rcases hz' with ⟨_, z1⟩ | ⟨z1, z2⟩
          all_goals
            go_wp2_with fail
            refine (HL.out _).mono ?_
            rintro e w' ⟨rfl, rfl⟩
            go_wp2_with fail
            refine (HSD.out _).mono ?_
            rintro e w' ⟨rfl, rfl⟩
            go_wp2_with fail
            refine (HLF.out _).mono ?_
            rintro e w' ⟨rfl, rfl⟩
            go_wp2_with fail
            refine (HST.out _).mono ?_
            rintro e w' ⟨v, rfl, ⟨re2, im2, rfl, q1, q2⟩, rfl⟩
            obtain ⟨re3, im3, hs, k3, k4⟩ := csum (op := .sub) (.inr rfl) HRE.out HIM.out q1 q2 (by have := HX.out; omega) (by have := HY.out; omega) (by have := HSX.out; omega) (by have := HSY.out; omega)
            have hrun := fun w => run_complex_sum (P := Try.prog) w .sub (.inr rfl) 25 .f64 _ _ _ _ _ _ hs
            rw [if_neg (by decide)] at k3 k4
            have K3 := Lib.hid k3
            have K4 := Lib.hid k4
            clear hs q1 q2 k3 k4
            go_wp2_with fail
            refine wp_goto ⟨rfl, ⟨k, c', re3, im3, _, _, by omega, HCL.out, HCB.out, K3.out, K4.out, by have := HX.out; have := HSX.out; omega, by have := HY.out; have := HSY.out; omega, HR2.out, rfl, _, _, _, _, _, _, _, _, _, _, _, _, _, _, _, _, _, _, _, _, _, _, _, _, _, _, _, _, _, _, _, _, _, _, _, _, _, _, _, _, _, _, _, rfl⟩, ?_⟩
            show lev ((c' : Int)).toNat < lev ((c : Int)).toNat
            rw [Int.toNat_natCast, Int.toNat_natCast, HLV'.out, HLV.out]
            omega
        · rw [if_neg h', if_neg h, Option.map_none] at hR
          have HE := Lib.hid ((eP (.returned (.tuple #[.int .i64 0, .bool false])) w).2 ⟨by rw [hR]; rfl, rfl⟩)
          rw [decide_eq_false h'] at f1
          rw [decide_eq_false h] at f2
          clear eP hR hX hY hre him hcl hcb L hlv z1 z2 hz lz rz LF RT e2 b1 b2 hp0 v1 v2 SD ST hsx hsy hsd hsdd hS hU hV cst h h' kl kr c0
          rcases hz' with ⟨_, z1⟩ | ⟨z1, z2⟩
          all_goals
            go_wp2_with fail
            refine (HL.out _).mono ?_
            rintro e w' ⟨rfl, rfl⟩
            go_wp2_with fail
            refine (HSD.out _).mono ?_
            rintro e w' ⟨rfl, rfl⟩
            go_wp2_with fail
            simp only [Exit.jump]
            go_ret2
            exact HE.out
  · intro pass
    have HP := Lib.hid pass
    clear pass
    go_wp2_with fail
    refine (HROOT.out _).mono ?_
    rintro e w' ⟨rfl, rfl⟩
    go_wp2_with fail
    go_step3
    simp only [Exit.then]
    apply_assumption
    refine HP.out _ _ ⟨d, c, re, im, X, Y, hd, HRL.out, HRB.out, HRE.out, HIM.out, by omega, by omega, HR.out, rfl, _, _, _, _, _, _, _, _, _, _, _, _, _, _, _, _, _, _, _, _, _, _, _, _, _, _, _, _, _, _, _, _, _, _, _, _, _, _, _, _, _, _, _, rfl⟩
end Go.Proofs.Ytbjfacfphgnhpaa
