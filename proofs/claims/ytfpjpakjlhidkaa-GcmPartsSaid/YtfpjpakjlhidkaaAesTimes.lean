/- Walks: aes.Times and the reference's Times: what they compute. -/
import Derived.Test.YtfpjpakjlhidkaaProg
import Derived.Test.YtfpjpakjlhidkaaAesMath
import Derived.WalkKit
import Derived.WalkSpells
import Derived.WalkLawsBesides
import Derived.Laws.BitsAllLaws
import Derived.Test.YtfpjpakjlhidkaaBitsLib
import Derived.Lib.Hide
namespace Go.Proofs.Ytfpjpakjlhidkaa
open Go.RowKit AesM

theorem times_o (a b c : Nat) (ha : a < 256) (hb : b < 256) (hc : c < 256) :
    bits .xor .u8 (c : Int) (bits .and .u8 (a : Int) (-bits .and .u8 (b : Int) 1 % 256)) = ((c ^^^ (if b % 2 = 1 then a else 0) : Nat) : Int) := by
  rw [and1_u8 b hb, mask_u8 a (b % 2) ha (by omega), u8_xor_nat c _ hc (by split <;> omega)]
theorem times_a (a : Nat) (ha : a < 256) :
    bits .xor .u8 ((a : Int) * 2 % 256) (bits .and .u8 27 (-((a : Int) / 128) % 256)) = ((xt a : Nat) : Int) := by
  have e1 : ((a : Int) * 2 % 256) = ((a * 2 % 256 : Nat) : Int) := by omega
  have e2 : ((a : Int) / 128) = ((a / 128 : Nat) : Int) := by omega
  have e3 := mask_u8 27 (a / 128) (by omega) (by omega)
  rw [e1, e2, show (27 : Int) = ((27 : Nat) : Int) from rfl, e3, u8_xor_nat _ _ (by omega) (by split <;> omega)]
  unfold xt
  congr 2
  by_cases h : 128 ≤ a
  · rw [if_pos (by omega), if_pos h]
  · rw [if_neg (by omega), if_neg h]
set_option maxHeartbeats 400000 in
theorem times_any (a b : Nat) (ha : a < 256) (hb : b < 256) (w : World) :
    Calls Try.prog 11 #[.int .u8 a, .int .u8 b] w fun e w' => e = .returned (.int .u8 (tms a b : Nat)) ∧ w = w' := by
  go_enter Try.func11, Try.ntmps11
  go_wp2
  go_loop [0, 1, 5] (fun x y o => ∃ n a' b' c : Nat, b' < 2 ^ n ∧ a' < 256 ∧ b' < 256 ∧ c < 256 ∧ gm n a' b' c = tms a b ∧ x = .int .u8 a' ∧ y = .int .u8 b' ∧ o = .int .u8 c) (fun _ y _ => (intOf y).toNat)
  case atStart => exact ⟨8, a, b, 0, by omega, ha, hb, by omega, rfl, rfl, rfl, rfl⟩
  case round =>
    obtain ⟨n, a', b', c, hbn, ha, hb, hc, he, rfl, rfl, rfl⟩ := hrel
    have H := Lib.hid he; clear he
    have H2 := Lib.hid hbn; clear hbn
    by_cases h0 : 0 < b'
    · go_wp2
      go_round
      case rel =>
        have hbn := H2.out
        obtain _ | n := n
        · omega
        · exact ⟨n, xt a', b' / 2, _, by rw [Nat.pow_succ] at hbn; omega, xt_lt ha, by omega, xor_lt hc (b := if b' % 2 = 1 then a' else 0) (by split <;> omega), H.out, by rw [times_a a' ha], by go_num, by rw [times_o a' b' c ha hb hc]⟩
      case measure => simp [intOf]; omega
    · go_wp2
      go_ret
      have h0 : b' = 0 := by omega
      subst h0
      exact ⟨ret_int (by rw [← H.out, gm_zero]), rfl⟩

theorem pow_b {a k n : Nat} (ha : a < 256) (h : k ≤ n) : a * 2 ^ k ≤ 255 * 2 ^ n := Nat.mul_le_mul (by omega) (two_pow_le h)
theorem cl_lt (a b : Nat) (ha : a < 256) : ∀ k, k ≤ 8 → cl a b k < 32768 := by
  intro k
  induction k with
  | zero => intro _; show 0 < _; omega
  | succ k ih =>
    intro h
    have := pow_b (k := k) (n := 7) ha (by omega)
    unfold cl
    split
    · exact Nat.xor_lt_two_pow (n := 15) (ih (by omega)) (by omega)
    · exact ih (by omega)
theorem bitq (b i u : Nat) (hu : u = 2 ^ i) : (((b : Int) / (u : Int) % 2 == 1) = true) ↔ b / 2 ^ i % 2 = 1 := by
  subst hu
  rw [show ((b : Int) / ((2 ^ i : Nat) : Int) % 2) = ((b / 2 ^ i % 2 : Nat) : Int) from by simp, beq_iff_eq]
  omega
theorem div_lo (b u : Nat) : (0 : Int) ≤ (b : Int) / (u : Int) := Int.ediv_nonneg (by omega) (by omega)
theorem div_hi (b u m : Nat) (h : b < m) : (b : Int) / (u : Int) < (m : Int) := by
  have := Nat.div_le_self b u
  rw [← Int.natCast_ediv]; omega
set_option maxHeartbeats 1000000 in
theorem rtimes_any (a b : Nat) (ha : a < 256) (hb : b < 256) (w : World) :
    Calls Try.prog 12 #[.int .i64 a, .int .i64 b] w fun e w' => e = .returned (.int .i64 (rtms a b : Nat)) ∧ w = w' := by
  go_enter Try.func12, Try.ntmps12
  go_wp2
  go_loop [5, 6] (fun n i => ∃ i' n' : Nat, i' ≤ 8 ∧ n' < 32768 ∧ n' = cl a b i' ∧ n = .int .i64 n' ∧ i = .int .i64 i') (fun _ i => 8 - (intOf i).toNat)
  case atStart => exact ⟨0, 0, by omega, by omega, rfl, rfl, rfl⟩
  case round =>
    obtain ⟨i, n, hi, hn, he, rfl, rfl⟩ := hrel
    have H := Lib.hid he; clear he
    by_cases h8 : i < 8
    · go_wp2
      go_loop [7, 8] (fun x k => ∃ k' x' : Nat, k' ≤ i ∧ x' ≤ 32640 ∧ x' = a * 2 ^ k' ∧ x = .int .i64 x' ∧ k = .int .i64 k') (fun _ k => i - (intOf k).toNat)
      case atStart => exact ⟨0, a, by omega, by omega, by omega, rfl, rfl⟩
      case round =>
        obtain ⟨k, x, hk, hx, he, rfl, rfl⟩ := hrel
        have H1 := Lib.hid he; clear he
        by_cases hki : k < i
        · go_wp2
          go_round
          case rel =>
            have h1 := H1.out
            have h2 := pow_b (k := k + 1) (n := 7) ha (by omega)
            exact ⟨k + 1, a * 2 ^ (k + 1), by omega, by omega, rfl, val_int (by rw [Nat.pow_succ, ← Nat.mul_assoc]; omega), by go_num⟩
          case measure => simp [intOf]; omega
        · obtain rfl : k = i := by omega
          go_wp2
          go_loop [9, 10] (fun u l => ∃ l' u' : Nat, l' ≤ k ∧ 1 ≤ u' ∧ u' ≤ 128 ∧ u' = 2 ^ l' ∧ u = .int .i64 u' ∧ l = .int .i64 l') (fun _ l => k - (intOf l).toNat)
          case atStart => exact ⟨0, 1, by omega, by omega, by omega, rfl, rfl, rfl⟩
          case round =>
            obtain ⟨l, u, hl, hu0, hu, he, rfl, rfl⟩ := hrel
            have H2 := Lib.hid he; clear he
            by_cases hlk : l < k
            · go_wp2
              go_round
              case rel =>
                have h1 := H2.out
                have h2 := two_pow_le (k := l + 1) (n := 7) (by omega)
                exact ⟨l + 1, 2 ^ (l + 1), by omega, by omega, by omega, rfl, val_int (by rw [Nat.pow_succ]; omega), by go_num⟩
              case measure => simp [intOf]; omega
            · obtain rfl : l = k := by omega
              have hq := bitq b l u H2.out
              have hq0 := div_lo b u
              have hq1 := div_hi b u 256 hb
              by_cases hc : b / 2 ^ l % 2 = 1
              · have hc' := hq.mpr hc
                have HC := Lib.hid hc; clear hc hq
                go_wp2
                go_round
                case rel => exact ⟨l + 1, n ^^^ x, by omega, Nat.xor_lt_two_pow (n := 15) hn (by omega), by rw [cl, if_pos HC.out, H.out, H1.out], by rw [i64_xor_nat n x (by omega) (by omega)], by go_num⟩
                case measure => simp [intOf]; omega
              · have hc' : (((b : Int) / (u : Int) % 2 == 1) = false) := by rw [← Bool.not_eq_true, hq]; exact hc
                have HC := Lib.hid hc; clear hc hq
                go_wp2
                go_round
                case rel => exact ⟨l + 1, n, by omega, hn, by rw [cl, if_neg HC.out]; exact H.out, rfl, by go_num⟩
                case measure => simp [intOf]; omega
    · obtain rfl : i = 8 := by omega
      go_wp2
      go_loop [5, 11] (fun n i => ∃ m n' : Nat, m ≤ 7 ∧ n' < 32768 ∧ rd m n' = rtms a b ∧ n = .int .i64 n' ∧ i = .int .i64 ((m : Int) + 7)) (fun _ i => (intOf i).toNat)
      case atStart => exact ⟨7, n, by omega, hn, by rw [H.out]; rfl, rfl, rfl⟩
      case round =>
        clear H
        obtain ⟨m, n, hm, hn, he, rfl, rfl⟩ := hrel
        have H := Lib.hid he; clear he
        by_cases h8 : 1 ≤ m
        · obtain ⟨j, rfl⟩ : ∃ j, m = j + 1 := ⟨m - 1, by omega⟩
          rw [show (((j + 1 : Nat) : Int) + 7) = (j : Int) + 8 from by omega]
          go_wp2
          go_loop [12, 13] (fun u l => ∃ l' u' : Nat, l' ≤ j + 8 ∧ 1 ≤ u' ∧ u' ≤ 16384 ∧ u' = 2 ^ l' ∧ u = .int .i64 u' ∧ l = .int .i64 l') (fun _ l => j + 8 - (intOf l).toNat)
          case atStart => exact ⟨0, 1, by omega, by omega, by omega, rfl, rfl, rfl⟩
          case round =>
            obtain ⟨l, u, hl, hu0, hu, he, rfl, rfl⟩ := hrel
            have H2 := Lib.hid he; clear he
            by_cases hlk : l < j + 8
            · go_wp2
              go_round
              case rel =>
                have h1 := H2.out
                have h2 := two_pow_le (k := l + 1) (n := 14) (by omega)
                exact ⟨l + 1, 2 ^ (l + 1), by omega, by omega, by omega, rfl, val_int (by rw [Nat.pow_succ]; omega), by go_num⟩
              case measure => simp [intOf]; omega
            · obtain rfl : l = j + 8 := by omega
              have hq := bitq n (j + 8) u H2.out
              have hq0 := div_lo n u
              have hq1 := div_hi n u 32768 hn
              have hj : u / 256 = 2 ^ j := by rw [H2.out, Nat.pow_add]; omega
              have hj' : 2 ^ j ≤ 64 := two_pow_le (n := 6) (by omega)
              have HJ := Lib.hid hj; clear hj
              by_cases hc : n / 2 ^ (j + 8) % 2 = 1
              · have hc' := hq.mpr hc
                have HC := Lib.hid hc; clear hc hq
                go_wp2
                go_round
                case rel =>
                  have hj := HJ.out
                  refine ⟨j, n ^^^ (283 * 2 ^ j), by omega, Nat.xor_lt_two_pow (n := 15) hn (by omega), ?_, ?_, by go_num⟩
                  · have := H.out; rw [rd, if_pos HC.out] at this; exact this
                  · rw [show (283 * ((u : Int) / 256)) = ((283 * 2 ^ j : Nat) : Int) from by omega, i64_xor_nat n _ (by omega) (by omega)]
                case measure => simp [intOf]; omega
              · have hc' : (((n : Int) / (u : Int) % 2 == 1) = false) := by rw [← Bool.not_eq_true, hq]; exact hc
                have HC := Lib.hid hc; clear hc hq
                go_wp2
                go_round
                case rel => exact ⟨j, n, by omega, hn, by have := H.out; rw [rd, if_neg HC.out] at this; exact this, rfl, by go_num⟩
                case measure => simp [intOf]; omega
        · obtain rfl : m = 0 := by omega
          go_wp2
          go_ret
          exact ⟨ret_int (by rw [← H.out, rd]), rfl⟩
end Go.Proofs.Ytfpjpakjlhidkaa
