/- Walks: walk.Parent, walk.Sibling, walk.Under. -/
import Derived.Test.YtngealmhgkoaiaaGreatZTreeBytes14
import Derived.Test.YtngealmhgkoaiaaGreatZTreeBytes01
import Derived.Deep.QuietTactic
namespace Go.Proofs.YtngealmhgkoaiaaGreat
open Go.RowKit WalkM

theorem wrap_pow' {m : Nat} (h : m ≤ 17) : IntKind.i64.wrap (2 ^ m) = ((2 ^ m : Nat) : Int) := by
  have h1 := two_pow_le h
  have h2 := two_pow_pos m
  have e : (2 : Int) ^ m = ((2 ^ m : Nat) : Int) := by simp
  rw [e]
  obtain ⟨p, hp⟩ : ∃ p, p = 2 ^ m := ⟨_, rfl⟩
  rw [← hp] at h1 h2 ⊢
  rw [IntKind.wrap_i64]
  omega
def parZ (x n : Int) : Int := if isOf x n = true ∧ x ≠ n - 1 then ((anc x.toNat (lev x.toNat + 1) : Nat) : Int) else -1
theorem isOf_bd {x n : Int} (h : isOf x n = true) : 0 ≤ x ∧ x ≤ 2 * n - 2 ∧ 1 ≤ n ∧ n ≤ 65536 := by
  unfold isOf at h
  rw [Bool.and_eq_true] at h
  have h1 := fits_small h.1
  have h2 := of_decide_eq_true h.2
  omega
theorem levZ_nat {x : Nat} (h : x ≤ 131070) : levZ (x : Int) = (lev x : Nat) := by
  rw [levZ, if_pos (by rw [isNode, decide_eq_true]; omega), Int.toNat_natCast]
set_option maxRecDepth 100000 in
set_option maxHeartbeats 1000000 in
theorem parent_any (x n : Int) (w : World) (h1 : -9223372036854775808 ≤ n) (h2 : n ≤ 9223372036854775807) :
    Calls Tryz.prog 190 #[.int .i64 x, .int .i64 n] w fun e w' => e = .returned (.int .i64 (parZ x n)) ∧ ∃ k, w' = w.drewN k := by
  have F := of_any x n
  by_cases hf : isOf x n = true
  · have hs := isOf_bd hf
    rw [hf] at F
    have HF := Lib.hid (F · h1 h2)
    clear F h1 h2
    by_cases hr : x = n - 1
    · have e : parZ x n = -1 := by rw [parZ, if_neg (by omega)]
      rw [e]
      subst hr
      clear e hf
      go_enter Tryz.func190, Tryz.ntmps190
      go_wp2_with fail
      refine (HF.out _).mono ?_
      rintro e w' ⟨rfl, rfl⟩
      go_wp2_with fail
      go_ret
      exact ⟨rfl, 0, rfl⟩
    · have e : parZ x n = ((anc x.toNat (lev x.toNat + 1) : Nat) : Int) := by rw [parZ, if_pos ⟨hf, hr⟩]
      rw [e]
      have hc : (x == n - 1) = false := by simp [hr]
      clear e hf hr
      obtain ⟨m, rfl⟩ : ∃ m : Nat, x = (m : Int) := ⟨x.toNat, by omega⟩
      rw [Int.toNat_natCast]
      have hm : m ≤ 131070 := by omega
      have L := level_any (m : Int)
      rw [levZ_nat hm] at L
      have hl := lev_le hm
      have hp := par_bits (lev_is hm) (by omega) (by omega)
      obtain ⟨l, hl'⟩ : ∃ l, l = lev m := ⟨_, rfl⟩
      rw [← hl'] at L hl hp ⊢
      have q1 := two_pow_le (show l ≤ 16 by omega)
      have q2 := two_pow_le (show l + 1 ≤ 17 by omega)
      have w1 := wrap_pow (show l ≤ 17 by omega)
      have w2 := wrap_pow (show l + 1 ≤ 17 by omega)
      have b0 : m ||| 2 ^ l < 2 ^ 17 := Nat.or_lt_two_pow (by omega) (by omega)
      have b1 := i64_or_nat m (2 ^ l) (by omega) (by omega)
      have b2 := i64_andnot_nat (m ||| 2 ^ l) (2 ^ (l + 1)) (by omega) (by omega)
      rw [hp] at b2
      have HL := Lib.hid L
      have W1 := Lib.hid w1
      have W2 := Lib.hid w2
      have B1 := Lib.hid b1
      have B2 := Lib.hid b2
      clear hl' L w1 w2 b1 b2 b0 q1 q2 hp
      go_enter Tryz.func190, Tryz.ntmps190
      go_wp2_with fail
      refine (HF.out _).mono ?_
      rintro e w' ⟨rfl, rfl⟩
      go_wp2_with fail
      refine (HL.out _).mono ?_
      rintro e w' ⟨rfl, rfl⟩
      go_wp2_with fail
      have w3 : IntKind.i64.wrap ((l : Int) + 1) = (l : Int) + 1 := by rw [IntKind.wrap_i64]; omega
      go_quiet (fail)
      clear w3
      have e3 : bits .andNot .i64 (bits .or .i64 (m : Int) (IntKind.i64.wrap (2 ^ l))) (IntKind.i64.wrap (2 ^ (l + 1))) = ((anc m (l + 1) : Nat) : Int) := by
        rw [wrap_pow' (show l ≤ 17 by omega), wrap_pow' (show l + 1 ≤ 17 by omega), B1.out, B2.out]
      rw [e3]
      clear e3
      go_wp2_with fail
      go_ret
      exact ⟨rfl, _, rfl⟩
  · have e : parZ x n = -1 := by rw [parZ, if_neg (by intro h; exact hf h.1)]
    have hf' : isOf x n = false := by rw [← Bool.not_eq_true]; exact hf
    rw [e]
    rw [hf'] at F
    have HF := Lib.hid (F · h1 h2)
    clear F hf hf' h1 h2 e
    go_enter Tryz.func190, Tryz.ntmps190
    go_wp2_with fail
    refine (HF.out _).mono ?_
    rintro e w' ⟨rfl, rfl⟩
    go_wp2_with fail
    go_ret
    exact ⟨rfl, 0, rfl⟩
theorem parZ_bd (x n : Int) : -1 ≤ parZ x n ∧ (0 ≤ parZ x n → isOf x n = true ∧ x ≠ n - 1) := by
  unfold parZ
  split
  · rename_i h; exact ⟨by omega, fun _ => h⟩
  · exact ⟨by omega, fun h => absurd h (by omega)⟩
def sibZ (x n : Int) : Int := if parZ x n < 0 then -1 else if x < parZ x n then rightZ (parZ x n) else leftZ (parZ x n)
set_option maxRecDepth 100000 in
set_option maxHeartbeats 1000000 in
theorem sibling_any (x n : Int) (w : World) (h1 : -9223372036854775808 ≤ n) (h2 : n ≤ 9223372036854775807) :
    Calls Tryz.prog 195 #[.int .i64 x, .int .i64 n] w fun e w' => e = .returned (.int .i64 (sibZ x n)) ∧ ∃ k, w' = w.drewN k := by
  have P := fun w => parent_any x n w h1 h2
  have e : sibZ x n = if parZ x n < 0 then -1 else if x < parZ x n then rightZ (parZ x n) else leftZ (parZ x n) := rfl
  obtain ⟨p, hp⟩ : ∃ p, p = parZ x n := ⟨_, rfl⟩
  rw [← hp] at P e
  have HP := Lib.hid P
  have HE := Lib.hid e
  clear P e hp h1 h2
  by_cases hn : p < 0
  · have e : sibZ x n = -1 := by rw [HE.out, if_pos hn]
    rw [e]
    clear e
    go_enter Tryz.func195, Tryz.ntmps195
    go_wp2_with fail
    refine (HP.out _).mono ?_
    rintro e w' ⟨rfl, k, rfl⟩
    go_wp2_with fail
    go_ret
    exact ⟨rfl, _, rfl⟩
  · by_cases hx : x < p
    · have e : sibZ x n = rightZ p := by rw [HE.out, if_neg hn, if_pos hx]
      rw [e]
      have R := wright_any p
      obtain ⟨r, hr⟩ : ∃ r, r = rightZ p := ⟨_, rfl⟩
      rw [← hr] at R ⊢
      have HR := Lib.hid R
      clear e hr R
      go_enter Tryz.func195, Tryz.ntmps195
      go_wp2_with fail
      refine (HP.out _).mono ?_
      rintro e w' ⟨rfl, k, rfl⟩
      go_wp2_with fail
      refine (HR.out _).mono ?_
      rintro e w' ⟨rfl, rfl⟩
      go_wp2_with fail
      go_ret
      exact ⟨rfl, _, rfl⟩
    · have e : sibZ x n = leftZ p := by rw [HE.out, if_neg hn, if_neg hx]
      rw [e]
      have R := wleft_any p
      obtain ⟨r, hr⟩ : ∃ r, r = leftZ p := ⟨_, rfl⟩
      rw [← hr] at R ⊢
      have HR := Lib.hid R
      clear e hr R
      go_enter Tryz.func195, Tryz.ntmps195
      go_wp2_with fail
      refine (HP.out _).mono ?_
      rintro e w' ⟨rfl, k, rfl⟩
      go_wp2_with fail
      refine (HR.out _).mono ?_
      rintro e w' ⟨rfl, rfl⟩
      go_wp2_with fail
      go_ret
      exact ⟨rfl, _, rfl⟩
end Go.Proofs.YtngealmhgkoaiaaGreat
/- Walks: walk.Under, walk.Span. -/
namespace Go.Proofs.YtngealmhgkoaiaaGreat
open Go.RowKit WalkM

def wideZ (y : Int) : Int := 2 ^ (levZ y).toNat - 1
def undZ (x y : Int) : Bool := isNode x && isNode y && decide (y - wideZ y ≤ x ∧ x ≤ y + wideZ y)
set_option maxRecDepth 100000 in
set_option maxHeartbeats 1000000 in
theorem under_any (x y : Int) (w : World) :
    Calls Tryz.prog 149 #[.int .i64 x, .int .i64 y] w fun e w' => e = .returned (.bool (undZ x y)) ∧ w = w' := by
  have N := node_any x
  by_cases hx : isNode x = true
  · rw [hx] at N
    have HN := Lib.hid N
    have M := node_any y
    clear N
    by_cases hy : isNode y = true
    · rw [hy] at M
      have HM := Lib.hid M
      have e : undZ x y = decide (y - wideZ y ≤ x ∧ x ≤ y + wideZ y) := by rw [undZ, hx, hy]; rfl
      rw [e]
      have x' := of_decide_eq_true hx
      have y' := of_decide_eq_true hy
      clear hx hy e M
      obtain ⟨m, rfl⟩ : ∃ m : Nat, y = (m : Int) := ⟨y.toNat, by omega⟩
      have hm : m ≤ 131070 := by omega
      have L := level_any (m : Int)
      have ew : wideZ (m : Int) = 2 ^ (lev m) - 1 := by rw [wideZ, levZ_nat hm, Int.toNat_natCast]
      rw [ew]
      rw [levZ_nat hm] at L
      have hl := lev_le hm
      obtain ⟨l, hl'⟩ : ∃ l, l = lev m := ⟨_, rfl⟩
      rw [← hl'] at L hl ⊢
      have HL := Lib.hid L
      have q1 := two_pow_le (show l ≤ 16 by omega)
      have q2 := two_pow_pos l
      have ep : (2 : Int) ^ l = ((2 ^ l : Nat) : Int) := by simp
      rw [ep]
      have W1 := wrap_pow (show l ≤ 17 by omega)
      rw [ep] at W1
      obtain ⟨p, hp⟩ : ∃ p, p = 2 ^ l := ⟨_, rfl⟩
      rw [← hp] at q1 q2 W1 ep ⊢
      have HW := Lib.hid W1
      have HP := Lib.hid ep
      clear hl' L ew hp
      by_cases ha : (m : Int) - ((p : Int) - 1) ≤ x
      · have e : decide ((m : Int) - ((p : Int) - 1) ≤ x ∧ x ≤ (m : Int) + ((p : Int) - 1)) = decide (x ≤ (m : Int) + ((p : Int) - 1)) := by
          by_cases hb : x ≤ (m : Int) + ((p : Int) - 1)
          · rw [decide_eq_true ⟨ha, hb⟩, decide_eq_true hb]
          · rw [decide_eq_false (fun h => hb h.2), decide_eq_false hb]
        rw [e]
        clear e
        obtain ⟨b, hb⟩ : ∃ b, b = decide (x ≤ (m : Int) + ((p : Int) - 1)) := ⟨_, rfl⟩
        rw [← hb]
        have HB := Lib.hid hb
        clear hb
        go_enter Tryz.func149, Tryz.ntmps149
        go_wp2_with fail
        refine (HN.out _).mono ?_
        rintro e w' ⟨rfl, rfl⟩
        go_wp2_with fail
        refine (HM.out _).mono ?_
        rintro e w' ⟨rfl, rfl⟩
        go_wp2_with fail
        refine (HL.out _).mono ?_
        rintro e w' ⟨rfl, rfl⟩
        go_wp2_with fail
        go_ret
        exact ⟨ret_bool HB.out.symm, rfl⟩
      · rw [decide_eq_false (fun h => ha h.1)]
        go_enter Tryz.func149, Tryz.ntmps149
        go_wp2_with fail
        refine (HN.out _).mono ?_
        rintro e w' ⟨rfl, rfl⟩
        go_wp2_with fail
        refine (HM.out _).mono ?_
        rintro e w' ⟨rfl, rfl⟩
        go_wp2_with fail
        refine (HL.out _).mono ?_
        rintro e w' ⟨rfl, rfl⟩
        go_wp2_with fail
        go_ret
        exact ⟨rfl, rfl⟩
    · have hy' : isNode y = false := by rw [← Bool.not_eq_true]; exact hy
      rw [hy'] at M
      have HM := Lib.hid M
      have e : undZ x y = false := by rw [undZ, hy', Bool.and_false, Bool.false_and]
      rw [e]
      clear hx hy hy' e M
      go_enter Tryz.func149, Tryz.ntmps149
      go_wp2_with fail
      refine (HN.out _).mono ?_
      rintro e w' ⟨rfl, rfl⟩
      go_wp2_with fail
      refine (HM.out _).mono ?_
      rintro e w' ⟨rfl, rfl⟩
      go_wp2_with fail
      go_ret
      exact ⟨rfl, rfl⟩
  · have hx' : isNode x = false := by rw [← Bool.not_eq_true]; exact hx
    rw [hx'] at N
    have HN := Lib.hid N
    have e : undZ x y = false := by rw [undZ, hx', Bool.false_and, Bool.false_and]
    rw [e]
    clear hx hx' e N
    go_enter Tryz.func149, Tryz.ntmps149
    go_wp2_with fail
    refine (HN.out _).mono ?_
    rintro e w' ⟨rfl, rfl⟩
    go_wp2_with fail
    go_ret
    exact ⟨rfl, rfl⟩
end Go.Proofs.YtngealmhgkoaiaaGreat
