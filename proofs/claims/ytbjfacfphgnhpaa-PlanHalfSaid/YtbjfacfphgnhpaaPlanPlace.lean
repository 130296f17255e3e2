/- Walks: plan.Place. -/
import Derived.Test.YtbjfacfphgnhpaaPlanBase
import Derived.Test.YtbjfacfphgnhpaaWalkBack
namespace Go.Proofs.Ytbjfacfphgnhpaa
open Go.RowKit WalkM FloatM
set_option linter.unusedVariables false
/-- to which side of the level j's node m lies -/
def sgn (m j : Nat) : Int := if (m : Int) < (anc m j : Nat) then -1 else 1
def sumX (m a : Nat) : Nat → Int
  | 0 => 0
  | r + 1 => sumX m a r + sgn m (a + r + 1) * strX ((a + r + 1 : Nat) : Int)
def sumY (m a : Nat) : Nat → Int
  | 0 => 0
  | r + 1 => sumY m a r + sgn m (a + r + 1) * strY ((a + r + 1 : Nat) : Int)
theorem sgn_cases (m j : Nat) : sgn m j = -1 ∨ sgn m j = 1 := by unfold sgn; split <;> simp
theorem strX_bd (l : Int) : 0 ≤ strX l ∧ strX l ≤ 128 := by have := strM_bd l; unfold strX; split <;> omega
theorem strY_bd (l : Int) : 0 ≤ strY l ∧ strY l ≤ 128 := by have := strM_bd l; unfold strY; split <;> omega
theorem sumX_bd (m a : Nat) : ∀ r : Nat, -(128 * (r : Int)) ≤ sumX m a r ∧ sumX m a r ≤ 128 * (r : Int) := by
  intro r
  induction r with
  | zero => simp [sumX]
  | succ r ih =>
    have := strX_bd ((a + r + 1 : Nat) : Int)
    rw [sumX]
    rcases sgn_cases m (a + r + 1) with h | h <;> rw [h] <;> omega
theorem sumY_bd (m a : Nat) : ∀ r : Nat, -(128 * (r : Int)) ≤ sumY m a r ∧ sumY m a r ≤ 128 * (r : Int) := by
  intro r
  induction r with
  | zero => simp [sumY]
  | succ r ih =>
    have := strY_bd ((a + r + 1 : Nat) : Int)
    rw [sumY]
    rcases sgn_cases m (a + r + 1) with h | h <;> rw [h] <;> omega
/-- a node's place -/
def plX (x n : Int) : Int := if isOf x n = true then sumX x.toNat (lev x.toNat) (Nat.log2 n.toNat - lev x.toNat) else 0
def plY (x n : Int) : Int := if isOf x n = true then sumY x.toNat (lev x.toNat) (Nat.log2 n.toNat - lev x.toNat) else 0
def PlaceP (x n : Int) (w : World) (e : Ending) (w' : World) : Prop := ∃ v, e = .returned (.tuple #[v, .bool (isOf x n)]) ∧ CP v (plX x n) (plY x n) ∧ Below w.heap.size w w'
set_option maxRecDepth 100000 in
set_option maxHeartbeats 2000000 in
theorem place_any (x n : Int) (w : World) (h1 : -9223372036854775808 ≤ n) (h2 : n ≤ 9223372036854775807) :
    Calls Try.prog 18 #[.int .i64 x, .int .i64 n] w (PlaceP x n w) := by
  have O := fun w => pof_any x n w h1 h2
  by_cases ho : isOf x n = true
  · have eP : ∀ e w', PlaceP x n w e w' ↔ ∃ v, e = .returned (.tuple #[v, .bool true]) ∧ CP v (plX x n) (plY x n) ∧ Below w.heap.size w w' := by
      intro e w'; unfold PlaceP; rw [ho]
    rw [ho] at O
    obtain ⟨m, d, rfl, rfl, hd, hm⟩ := isOf_out ho
    have D := fun w => path_any m d hd hm w
    have h17 := two_pow_le (show d + 1 ≤ 17 by omega)
    have hlv := lev_is (x := m) (by omega)
    have hl := (lev_root hm hlv).1
    have eX : plX (m : Int) ((2 ^ d : Nat) : Int) = sumX m (lev m) (d - lev m) := by
      rw [plX, if_pos ho, Int.toNat_natCast, Int.toNat_natCast, Nat.log2_two_pow]
    have eY : plY (m : Int) ((2 ^ d : Nat) : Int) = sumY m (lev m) (d - lev m) := by
      rw [plY, if_pos ho, Int.toNat_natCast, Int.toNat_natCast, Nat.log2_two_pow]
    rw [eX, eY] at eP
    have hle : ∀ j, j ≤ d → anc m j ≤ 131070 := fun j hj => by have := anc_le (x := m) (d := d) (j := j) (by omega) hj; omega
    have hLV : ∀ r, r < d - lev m → ∀ w, Calls Try.prog 40 #[.int .i64 (anc m (lev m + r + 1) : Nat)] w fun e w' => e = .returned (.int .i64 ((lev m + r + 1 : Nat) : Int)) ∧ w = w' := by
      intro r hr w
      have := level_any (anc m (lev m + r + 1) : Nat) w
      rw [levZ_nat (hle _ (by omega)), lev_eq (hle _ (by omega)) (anc_lev _ _)] at this
      exact this
    obtain ⟨n, hn⟩ : ∃ n, n = 2 ^ d := ⟨_, rfl⟩
    rw [← hn] at D O eP ⊢
    obtain ⟨l, hl'⟩ : ∃ l, l = lev m := ⟨_, rfl⟩
    rw [← hl'] at D hl hLV eP
    obtain ⟨k, hk⟩ : ∃ k, k = d - l := ⟨_, rfl⟩
    rw [← hk] at D hLV eP
    have hk16 : l + k ≤ 16 := by omega
    have HD := Lib.hid D
    have HO := Lib.hid O
    have HLV := Lib.hid hLV
    have HEP := Lib.hid eP
    clear D O hLV eP eX eY hle hk hl hl' ho hm h17 h1 h2 hn hlv
    go_enter Try.func18, Try.ntmps18
    go_wp2_with fail
    refine (HO.out _).mono ?_
    rintro e w' ⟨rfl, rfl⟩
    go_wp2_with fail
    refine (HD.out _).mono ?_
    rintro e w1 ⟨v, rfl, hown, hb⟩
    have HB := Lib.hid hb
    have hrd := hown.rd
    obtain ⟨a1, cap1, rfl, hc1, hc2, _⟩ := id hrd
    rw [nvs_len, ups_len] at hc1 hrd ⊢
    have HRD := Lib.hid hrd
    clear hown hb hrd
    go_wp2_with fail
    go_loopg [6, 17] k (fun q z i wr => ∃ (r : Nat) (re im : Nat), r + q = k ∧ i = .int .i64 (r : Int) ∧ z = .complex .f64 re im ∧ IsF re (sumX m l r) ∧ IsF im (sumY m l r) ∧ wr = w1)
    case atStart => exact ⟨0, 0, 0, by omega, rfl, rfl, isF_zero, isF_zero, rfl⟩
    case round =>
      obtain ⟨r, re, im, hr, rfl, rfl, hre, him, rfl⟩ := hrel
      have HRE := Lib.hid hre
      have HIM := Lib.hid him
      clear hre him
      by_cases hrk : r < k
      · obtain ⟨b1, o1, rfl, _, c1⟩ := HRD.out.get (nvs_ups_get m l k r hrk)
        have hlv := HLV.out r hrk
        have hbx := sumX_bd m l r
        have hby := sumY_bd m l r
        have ex : sumX m l (r + 1) = sumX m l r + sgn m (l + r + 1) * strX ((l + r + 1 : Nat) : Int) := rfl
        have ey : sumY m l (r + 1) = sumY m l r + sgn m (l + r + 1) * strY ((l + r + 1 : Nat) : Int) := rfl
        have hsx := strX_bd ((l + r + 1 : Nat) : Int)
        have hsy := strY_bd ((l + r + 1 : Nat) : Int)
        have es : sgn m (l + r + 1) = if (m : Int) < (anc m (l + r + 1) : Nat) then -1 else 1 := rfl
        have ST := fun w => stride_any ((l + r + 1 : Nat) : Int) w
        obtain ⟨z1, hz1⟩ : ∃ a, a = anc m (l + r + 1) := ⟨_, rfl⟩
        rw [← hz1] at c1 hlv es
        obtain ⟨lv, hlvv⟩ : ∃ a : Nat, a = l + r + 1 := ⟨_, rfl⟩
        rw [← hlvv] at hlv ST ex ey hsx hsy es
        obtain ⟨U, hU⟩ : ∃ u, u = strX (lv : Int) := ⟨_, rfl⟩
        obtain ⟨V, hV⟩ : ∃ u, u = strY (lv : Int) := ⟨_, rfl⟩
        rw [← hU] at ST ex hsx
        rw [← hV] at ST ey hsy
        have hrk' : decide ((r : Int) < (k : Int)) = true := by rw [decide_eq_true_iff]; omega
        have HL1 := Lib.hid hlv
        have HST := Lib.hid ST
        have HEX := Lib.hid ex
        have HEY := Lib.hid ey
        have HES := Lib.hid es
        have HBX := Lib.hid hbx
        have HBY := Lib.hid hby
        have HSX := Lib.hid hsx
        have HSY := Lib.hid hsy
        clear hlv ST ex ey es hz1 hlvv hU hV hbx hby hsx hsy
        by_cases hmz : (m : Int) < (z1 : Int)
        · have hs : sgn m lv = -1 := by rw [HES.out, if_pos hmz]
          have HSG := Lib.hid hs
          clear hs
          go_wp2_with fail
          refine (HL1.out _).mono ?_
          rintro e w' ⟨rfl, rfl⟩
          go_wp2_with fail
          refine (HST.out _).mono ?_
          rintro e w' ⟨v, rfl, ⟨re2, im2, rfl, k1, k2⟩, rfl⟩
          obtain ⟨re3, im3, hs, k3, k4⟩ := csum (op := .sub) (.inr rfl) HRE.out HIM.out k1 k2 (by have := HBX.out; omega) (by have := HBY.out; omega) (by have := HSX.out; omega) (by have := HSY.out; omega)
          have hrun := fun w => run_complex_sum (P := Try.prog) w .sub (.inr rfl) 25 .f64 _ _ _ _ _ _ hs
          rw [if_neg (by decide)] at k3 k4
          have K3 := Lib.hid k3
          have K4 := Lib.hid k4
          clear hs k1 k2 k3 k4
          go_wp2_with fail
          go_roundg (gk - 1)
          case measure => omega
          case rel =>
            refine ⟨r + 1, re3, im3, by omega, by go_num, rfl, ?_, ?_, rfl⟩
            · rw [HEX.out, HSG.out]; have := K3.out; rw [Int.neg_one_mul, ← Int.sub_eq_add_neg]; exact this
            · rw [HEY.out, HSG.out]; have := K4.out; rw [Int.neg_one_mul, ← Int.sub_eq_add_neg]; exact this
        · have hs : sgn m lv = 1 := by rw [HES.out, if_neg hmz]
          have HSG := Lib.hid hs
          clear hs
          go_wp2_with fail
          refine (HL1.out _).mono ?_
          rintro e w' ⟨rfl, rfl⟩
          go_wp2_with fail
          refine (HST.out _).mono ?_
          rintro e w' ⟨v, rfl, ⟨re2, im2, rfl, k1, k2⟩, rfl⟩
          obtain ⟨re3, im3, hs, k3, k4⟩ := csum (op := .add) (.inl rfl) HRE.out HIM.out k1 k2 (by have := HBX.out; omega) (by have := HBY.out; omega) (by have := HSX.out; omega) (by have := HSY.out; omega)
          have hrun := fun w => run_complex_sum (P := Try.prog) w .add (.inl rfl) 25 .f64 _ _ _ _ _ _ hs
          rw [if_pos rfl] at k3 k4
          have K3 := Lib.hid k3
          have K4 := Lib.hid k4
          clear hs k1 k2 k3 k4
          go_wp2_with fail
          go_roundg (gk - 1)
          case measure => omega
          case rel =>
            refine ⟨r + 1, re3, im3, by omega, by go_num, rfl, ?_, ?_, rfl⟩
            · rw [HEX.out, HSG.out, Int.one_mul]; exact K3.out
            · rw [HEY.out, HSG.out, Int.one_mul]; exact K4.out
      · obtain rfl : r = k := by omega
        have hrk' : decide ((r : Int) < (r : Int)) = false := by rw [decide_eq_false_iff_not]; omega
        go_wp2_with fail
        go_ret2
        exact (HEP.out _ _).2 ⟨_, rfl, ⟨re, im, rfl, HRE.out, HIM.out⟩, HB.out⟩
  · have hf : isOf x n = false := by rw [← Bool.not_eq_true]; exact ho
    have eP : ∀ e w', PlaceP x n w e w' ↔ ∃ v, e = .returned (.tuple #[v, .bool false]) ∧ CP v 0 0 ∧ Below w.heap.size w w' := by
      intro e w'; unfold PlaceP plX plY; rw [hf, if_neg (by simp), if_neg (by simp)]
    rw [hf] at O
    have HO := Lib.hid O
    have HEP := Lib.hid eP
    clear O eP hf ho h1 h2
    go_enter Try.func18, Try.ntmps18
    go_wp2_with fail
    refine (HO.out _).mono ?_
    rintro e w' ⟨rfl, rfl⟩
    go_wp2_with fail
    go_ret2
    exact (HEP.out _ _).2 ⟨_, rfl, ⟨0, 0, rfl, isF_zero, isF_zero⟩, Below.refl _ _⟩
end Go.Proofs.Ytbjfacfphgnhpaa
