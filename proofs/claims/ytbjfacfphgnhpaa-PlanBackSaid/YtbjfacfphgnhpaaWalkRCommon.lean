/- Walks: the reference's Common. -/
import Derived.Test.YtbjfacfphgnhpaaWalkCommonMath
import Derived.Test.YtbjfacfphgnhpaaWalkRPath
namespace Go.Proofs.Ytbjfacfphgnhpaa
open Go.RowKit WalkM
def cout (x c d r : Nat) : Int := if r = 0 then -1 else ((anc x (if c ≤ d - (r - 1) then d - (r - 1) else c) : Nat) : Int)
set_option maxRecDepth 100000 in
set_option maxHeartbeats 2000000 in
theorem rcommon_on (x y d : Nat) (hd : d ≤ 16) (hx : x + 1 < 2 ^ (d + 1)) (hy : y + 1 < 2 ^ (d + 1)) (w : World) :
    Calls Try.prog 34 #[.int .i64 x, .int .i64 y, .int .i64 ((2 ^ d : Nat) : Int)] w fun e w' => e = .returned (.int .i64 (anc x (com x y) : Nat)) ∧ Below w.heap.size w w' := by
  have D := fun w => down_on x d hd hx w
  have E := fun w => down_on y d hd hy w
  have h17 := two_pow_le (show d + 1 ≤ 17 by omega)
  have hl := (lev_root hx (lev_is (x := x) (by omega))).1
  have hl' := (lev_root hy (lev_is (x := y) (by omega))).1
  have hc := com_ex hd hx hy
  have ga := dnodes_at x d (d - lev x + 1)
  have gb := dnodes_at y d (d - lev y + 1)
  have eqn : ∀ r, r ≤ d → lev x ≤ d - r → lev y ≤ d - r → (anc x (d - r) = anc y (d - r) ↔ com x y ≤ d - r) := by
    intro r hr h1 h2
    constructor
    · intro h
      rcases Nat.lt_or_ge (d - r) (com x y) with hlt | hge
      · exact absurd h (hc.1.2.2.2 _ h1 h2 hlt)
      · exact hge
    · intro h
      exact anc_up hc.1.2.2.1 h
  obtain ⟨c, hcc⟩ : ∃ c, c = com x y := ⟨_, rfl⟩
  rw [← hcc] at hc eqn ⊢
  obtain ⟨n, hn⟩ : ∃ n, n = 2 ^ d := ⟨_, rfl⟩
  rw [← hn] at D E ⊢
  obtain ⟨k, hk⟩ : ∃ k, k = d - lev x := ⟨_, rfl⟩
  obtain ⟨q, hq⟩ : ∃ q, q = d - lev y := ⟨_, rfl⟩
  rw [← hk] at D ga
  rw [← hq] at E gb
  have hk16 : k ≤ 16 := by omega
  have hq16 : q ≤ 16 := by omega
  have hcd : c ≤ d := hc.2
  have hck : d ≤ c + k := by have := hc.1.1; omega
  have hcq : d ≤ c + q := by have := hc.1.2.1; omega
  have hmm : c + k ≤ d ∨ c + q ≤ d ∨ (d < c + k ∧ d < c + q) := by omega
  have eqn' : ∀ r, r ≤ k → r ≤ q → (anc x (d - r) = anc y (d - r) ↔ c ≤ d - r) := fun r h1 h2 => eqn r (by omega) (by omega) (by omega)
  have hkd : k ≤ d := by omega
  have hqd : q ≤ d := by omega
  have HD := Lib.hid D
  have HE := Lib.hid E
  have HGA := Lib.hid ga
  have HGB := Lib.hid gb
  have HEQ := Lib.hid eqn'
  clear D E ga gb eqn eqn' hx hy h17 hl hl' hc hcc hn hk hq hmm
  go_enter Try.func34, Try.ntmps34
  go_wp2_with fail
  refine (HD.out _).mono ?_
  rintro e w1 ⟨v1, rfl, hown, hb⟩
  have HO1 := Lib.hid hown
  have HB1 := Lib.hid hb
  clear hown hb
  go_wp2_with fail
  refine (HE.out _).mono ?_
  rintro e w2 ⟨v2, rfl, hown, hb⟩
  have hown1 := HO1.out.below hb (Nat.le_refl _)
  obtain ⟨g1, cap1, rfl, hg1, hgl1, hn1, hmx1, hc1, -⟩ := hown1.out (by omega)
  obtain ⟨g2, cap2, rfl, hg2, hgl2, hn2, hmx2, hc2, -⟩ := hown.out (by omega)
  have HC1 := Lib.hid hc1
  have HC2 := Lib.hid hc2
  have HB2 := Lib.hid hb
  clear hc1 hc2 hown1 hown hb HO1
  go_wp2_with fail
  go_loopg [9, 10] (k + 1) (fun m out i wr => ∃ r t : Nat, r + m = k + 1 ∧ r ≤ q + 1 ∧ i = .int .i64 (r : Int) ∧ out = .int .i64 (cout x c d r) ∧ wr = w2.drewN t)
  case atStart => exact ⟨0, 0, by omega, by omega, rfl, rfl, rfl⟩
  case round =>
    obtain ⟨r, t, hr, hrq, rfl, rfl, rfl⟩ := hrel
    obtain ⟨o, ho⟩ : ∃ o : Int, o = cout x c d r := ⟨_, rfl⟩
    rw [← ho]
    have HO := Lib.hid ho
    clear ho
    by_cases hrk : r ≤ k
    · by_cases hrq' : r ≤ q
      · have c1 := HC1.out _ _ (HGA.out r (by omega))
        have c2 := HC2.out _ _ (HGB.out r (by omega))
        have he := HEQ.out r hrk hrq'
        obtain ⟨a, ha⟩ : ∃ a, a = anc x (d - r) := ⟨_, rfl⟩
        obtain ⟨b, hb⟩ : ∃ b, b = anc y (d - r) := ⟨_, rfl⟩
        rw [← ha] at c1 he
        rw [← hb] at c2 he
        have HA := Lib.hid ha
        have HHE := Lib.hid he
        clear ha hb he
        by_cases hab : a = b
        · subst hab
          go_wp2_with fail
          go_quiet (fail)
          go_wp2_with fail
          go_roundg (gk - 1)
          case measure => omega
          case rel =>
            refine ⟨r + 1, _, by omega, by omega, by go_num, ?_, rfl⟩
            have h := HHE.out.1 (by trivial)
            rw [cout, if_neg (by omega), Nat.add_sub_cancel, if_pos h, HA.out]
        · have hc : ((a : Int) == (b : Int)) = false := by rw [beq_eq_false_iff_ne]; omega
          have h := HHE.out
          have HH : Hid (¬ c ≤ d - r) := Lib.hid (fun h' => hab (h.2 h'))
          clear hab h
          go_wp2_with fail
          go_quiet (fail)
          go_wp2_with fail
          go_roundg (gk - 1)
          case measure => omega
          case rel =>
            refine ⟨r + 1, _, by omega, by omega, by go_num, ?_, rfl⟩
            have h := HH.out
            rw [cout, if_neg (by omega), Nat.add_sub_cancel, if_neg h, HO.out, cout]
            by_cases h0 : r = 0
            · subst h0; exact absurd hcd h
            · rw [if_neg h0]
              by_cases h1 : c ≤ d - (r - 1)
              · rw [if_pos h1]
                exact val_int (by rw [show d - (r - 1) = c by omega])
              · rw [if_neg h1]
      · obtain rfl : r = q + 1 := by omega
        go_wp2_with fail
        go_ret
        refine ⟨ret_int ?_, ((HB1.out.trans (HB2.out.mono HB1.out.size)).trans (below_drewN' (Below.refl _ _) _))⟩
        rw [HO.out, cout, if_neg (by omega), Nat.add_sub_cancel]
        by_cases h1 : c ≤ d - q
        · rw [if_pos h1, show d - q = c by omega]
        · rw [if_neg h1]
    · obtain rfl : r = k + 1 := by omega
      go_wp2_with fail
      go_ret
      refine ⟨ret_int ?_, ((HB1.out.trans (HB2.out.mono HB1.out.size)).trans (below_drewN' (Below.refl _ _) _))⟩
      rw [HO.out, cout, if_neg (by omega), Nat.add_sub_cancel]
      by_cases h1 : c ≤ d - k
      · rw [if_pos h1, show d - k = c by omega]
      · rw [if_neg h1]
set_option maxRecDepth 100000 in
set_option maxHeartbeats 2000000 in
theorem rcommon_any (x y n : Int) (w : World) (h1 : -9223372036854775808 ≤ n) (h2 : n ≤ 9223372036854775807) :
    Calls Try.prog 34 #[.int .i64 x, .int .i64 y, .int .i64 n] w fun e w' => e = .returned (.int .i64 (comZ x y n)) ∧ Below w.heap.size w w' := by
  by_cases hx : isOf x n = true
  · obtain ⟨m, d, rfl, rfl, hd, hm⟩ := isOf_out hx
    by_cases hy : isOf y ((2 ^ d : Nat) : Int) = true
    · have hyb := isOf_bd hy
      obtain ⟨q, rfl⟩ : ∃ q : Nat, y = (q : Int) := ⟨y.toNat, by omega⟩
      have hq := hy
      rw [isOf_nat hd, decide_eq_true_eq] at hq
      rw [comZ, hx, hy, if_pos (show (true && true) = true from rfl), Int.toNat_natCast, Int.toNat_natCast]
      exact rcommon_on m q d hd hm hq w
    · have hf : isOf y ((2 ^ d : Nat) : Int) = false := by rw [← Bool.not_eq_true]; exact hy
      have e : comZ m y ((2 ^ d : Nat) : Int) = -1 := by rw [comZ, hf, Bool.and_false, if_neg (by simp)]
      rw [e]
      have hl := (lev_root hm (lev_is (x := m) (by have := two_pow_le (show d + 1 ≤ 17 by omega); omega))).1
      have HD := Lib.hid (fun w => down_on m d hd hm w)
      have HE := Lib.hid (fun w => down_off y ((2 ^ d : Nat) : Int) w h1 h2 hf)
      obtain ⟨n, hn⟩ : ∃ n, n = 2 ^ d := ⟨_, rfl⟩
      rw [← hn] at HD HE ⊢
      obtain ⟨k, hk⟩ : ∃ k, k = d - lev m := ⟨_, rfl⟩
      rw [← hk] at HD
      have hk16 : k ≤ 16 := by omega
      clear hx hy hf e h1 h2 hm hn hk hl
      go_enter Try.func34, Try.ntmps34
      go_wp2_with fail
      refine (HD.out _).mono ?_
      rintro e w1 ⟨v1, rfl, hown, hb⟩
      obtain ⟨g1, cap1, rfl, hg1, hgl1, hn1, hmx1, hc1, -⟩ := hown.out (by omega)
      have HB1 := Lib.hid hb
      clear hown hb hc1
      go_wp2_with fail
      refine (HE.out _).mono ?_
      rintro e w2 ⟨rfl, rfl⟩
      go_wp2_with fail
      go_loopg [9, 10] 0 (fun m out i wr => i = .int .i64 0 ∧ out = .int .i64 (-1) ∧ wr = w1)
      case atStart => exact ⟨rfl, rfl, rfl⟩
      case round =>
        obtain ⟨rfl, rfl, rfl⟩ := hrel
        go_wp2_with fail
        go_ret
        exact ⟨rfl, HB1.out⟩
  · have hf : isOf x n = false := by rw [← Bool.not_eq_true]; exact hx
    have e : comZ x y n = -1 := by rw [comZ, hf, Bool.false_and, if_neg (by simp)]
    rw [e]
    have HD := Lib.hid (fun w => down_off x n w h1 h2 hf)
    have E : ∀ w, Calls Try.prog 51 #[.int .i64 y, .int .i64 n] w fun e w' => (∃ a k cap, e = .returned (.slice a k cap) ∧ k ≤ 17) ∧ Below w.heap.size w w' := by
      intro w
      by_cases hy : isOf y n = true
      · obtain ⟨m, d, rfl, rfl, hd, hm⟩ := isOf_out hy
        refine (down_on m d hd hm w).mono ?_
        rintro e w' ⟨v, rfl, hown, hb⟩
        obtain ⟨g1, cap1, rfl, hg1, hgl1, hn1, hmx1, hc1, -⟩ := hown.out (by omega)
        exact ⟨⟨_, _, _, rfl, by omega⟩, hb⟩
      · refine (down_off y n w h1 h2 (by rw [← Bool.not_eq_true]; exact hy)).mono ?_
        rintro e w' ⟨rfl, rfl⟩
        exact ⟨⟨_, _, _, rfl, by omega⟩, Below.refl _ _⟩
    have HE := Lib.hid E
    clear hx hf e h1 h2 E
    go_enter Try.func34, Try.ntmps34
    go_wp2_with fail
    refine (HD.out _).mono ?_
    rintro e w1 ⟨rfl, rfl⟩
    go_wp2_with fail
    refine (HE.out _).mono ?_
    rintro e w2 ⟨⟨a, k, cap, rfl, hk⟩, hb⟩
    have HB2 := Lib.hid hb
    clear hb
    go_wp2_with fail
    go_loopg [9, 10] 0 (fun m out i wr => i = .int .i64 0 ∧ out = .int .i64 (-1) ∧ wr = w2)
    case atStart => exact ⟨rfl, rfl, rfl⟩
    case round =>
      obtain ⟨rfl, rfl, rfl⟩ := hrel
      go_wp2_with fail
      go_ret
      exact ⟨rfl, HB2.out⟩
end Go.Proofs.Ytbjfacfphgnhpaa
