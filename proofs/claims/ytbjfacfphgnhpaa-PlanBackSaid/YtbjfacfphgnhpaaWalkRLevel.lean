/- Walks: the reference's Last of what is no node, Level, Children. -/
import Derived.Test.YtbjfacfphgnhpaaWalkLast
namespace Go.Proofs.Ytbjfacfphgnhpaa
open Go.RowKit WalkM
set_option linter.unusedVariables false
set_option maxRecDepth 100000 in
set_option maxHeartbeats 1000000 in
theorem last_off (x n : Int) (w : World) (h1 : -9223372036854775808 ≤ n) (h2 : n ≤ 9223372036854775807) (ho : isOf x n = false) :
    Calls Try.prog 44 #[.int .i64 x, .int .i64 n] w fun e w' => e = .returned (.tuple #[.agg #[.int .i64 0, .int .i64 0, .int .i64 0], .bool false]) ∧ Below w.heap.size w w' := by
  have D := fun w => down_off x n w h1 h2 ho
  have HD := Lib.hid D
  clear D h1 h2 ho
  go_enter Try.func44, Try.ntmps44
  go_wp2_with fail
  refine (HD.out _).mono ?_
  rintro e w' ⟨rfl, rfl⟩
  go_wp2_with fail
  refine bodyPost_ret (v := .tuple #[.agg #[.int .i64 0, .int .i64 0, .int .i64 0], .bool false]) (results_row2 Try.results44 _ _ w.heap.size _ _ _ rfl (Blk.new _ _ _) Try.underlying49 rfl (by kernel_rfl)) rfl ⟨rfl, ?_⟩
  exact (Below.refl _ _).alloc (Nat.le_refl _) _
theorem isOf_most (x : Int) : isOf x 65536 = isNode x := by
  have h : fits (65536 : Int).toNat = true := by decide
  unfold isOf isNode
  rw [h, Bool.true_and]
  rfl
theorem last_most (x : Nat) (hx : x ≤ 131070) (w : World) :
    Calls Try.prog 44 #[.int .i64 x, .int .i64 65536] w fun e w' => e = .returned (.tuple #[.agg #[.int .i64 x, .int .i64 (plo x (lev x) : Nat), .int .i64 (phi x (lev x) : Nat)], .bool true]) ∧ Below w.heap.size w w' := by
  have h := last_on x 16 (by omega) (by omega) w
  have e : ((2 ^ 16 : Nat) : Int) = 65536 := by decide
  rw [e] at h
  exact h
theorem last_none (x : Int) (hx : isNode x = false) (w : World) :
    Calls Try.prog 44 #[.int .i64 x, .int .i64 65536] w fun e w' => e = .returned (.tuple #[.agg #[.int .i64 0, .int .i64 0, .int .i64 0], .bool false]) ∧ Below w.heap.size w w' :=
  last_off x 65536 w (by omega) (by omega) (by rw [isOf_most]; exact hx)
theorem half_pow {k : Nat} (h : 0 < k) : (((2 ^ (k + 1) - 1 : Nat) : Int)) / 2 = ((2 ^ k - 1 : Nat) : Int) := by
  have := pow_pos' k
  rw [Nat.pow_succ]; omega
set_option maxRecDepth 100000 in
set_option maxHeartbeats 1000000 in
theorem rlevel_any (x : Int) (w : World) :
    Calls Try.prog 46 #[.int .i64 x] w fun e w' => e = .returned (.int .i64 (levZ x)) ∧ Below w.heap.size w w' := by
  by_cases hx : 0 ≤ x ∧ x ≤ 131070
  · obtain ⟨m, rfl⟩ : ∃ m : Nat, x = (m : Int) := ⟨x.toNat, by omega⟩
    have hm : m ≤ 131070 := by omega
    have D := last_most m hm
    have hl16 := lev_le hm
    rw [levZ_nat hm]
    have hph := phi_le (x := m) (d := 16) (by omega) hl16
    have he : phi m (lev m) = plo m (lev m) + (2 ^ (lev m + 1) - 2) := rfl
    have hq := two_pow_le (show lev m + 1 ≤ 17 by omega)
    have hp0 := pow_pos' (lev m)
    have he2 : 2 ^ (lev m + 1) = 2 * 2 ^ lev m := by rw [Nat.pow_succ]; omega
    obtain ⟨l, hl⟩ : ∃ l, l = lev m := ⟨_, rfl⟩
    rw [← hl] at D hl16 hph he hq hp0 he2 ⊢
    obtain ⟨lo, hlo⟩ : ∃ a, a = plo m l := ⟨_, rfl⟩
    obtain ⟨hi, hhi⟩ : ∃ a, a = phi m l := ⟨_, rfl⟩
    rw [← hlo, ← hhi] at D
    rw [← hhi] at hph
    rw [← hlo, ← hhi] at he
    have hstart : (hi : Int) - lo + 1 = ((2 ^ (l + 1) - 1 : Nat) : Int) := by omega
    have hlh : lo ≤ hi := by omega
    have hhi17 : hi ≤ 131070 := by omega
    have HD := Lib.hid D
    have HS := Lib.hid hstart
    clear D hl hlo hhi he hph hstart hx hq hp0 he2
    go_enter Try.func46, Try.ntmps46
    go_wp2_with fail
    refine (HD.out _).mono ?_
    rintro e w1 ⟨rfl, hb⟩
    have HB := Lib.hid hb
    clear hb
    go_wp2_with fail
    go_loopg [5, 6] l (fun k n v wr => ∃ i : Nat, i + k = l ∧ n = .int .i64 (i : Int) ∧ v = .int .i64 ((2 ^ (l + 1 - i) - 1 : Nat) : Int) ∧ Below w.heap.size w wr)
    case atStart =>
      refine ⟨0, by omega, rfl, val_int ?_, HB.out.alloc (by have := HB.out.size; omega) _⟩
      exact HS.out
    case round =>
      obtain ⟨i, hi', rfl, rfl, hbr⟩ := hrel
      have HBR := Lib.hid hbr
      have hq := two_pow_le (show l + 1 - i ≤ 17 by omega)
      clear hbr
      by_cases hil : i = l
      · subst hil
        have e1 : ((2 ^ (i + 1 - i) - 1 : Nat) : Int) = 1 := by rw [show i + 1 - i = 1 by omega]; rfl
        rw [e1]
        clear e1
        go_wp2_with fail
        go_ret
        exact ⟨rfl, HBR.out⟩
      · have e2 := half_pow (show 0 < l - i by omega)
        rw [show l - i + 1 = l + 1 - i by omega] at e2
        have hp0 := two_pow_le (show 2 ≤ l + 1 - i by omega)
        rw [show l - i = l + 1 - (i + 1) by omega] at e2
        obtain ⟨v, hv⟩ : ∃ v, v = 2 ^ (l + 1 - i) - 1 := ⟨_, rfl⟩
        have hv1 : 1 < v := by omega
        have hv2 : v ≤ 131071 := by omega
        rw [← hv] at e2 ⊢
        have HE := Lib.hid e2
        have hil' : i < l := by omega
        clear e2 hv hil
        go_wp2_with fail
        go_roundg (gk - 1)
        case measure => omega
        case rel => exact ⟨i + 1, by omega, by go_num, val_int HE.out, HBR.out⟩
  · have hn : isNode x = false := by rw [isNode, decide_eq_false]; exact hx
    have D := last_none x hn
    have e : levZ x = -1 := by rw [levZ, if_neg (by rw [hn]; simp)]
    rw [e]
    have HD := Lib.hid D
    clear D e hn hx
    go_enter Try.func46, Try.ntmps46
    go_wp2_with fail
    refine (HD.out _).mono ?_
    rintro e w1 ⟨rfl, hb⟩
    have HB := Lib.hid hb
    clear hb
    go_wp2_with fail
    go_ret
    exact ⟨rfl, HB.out.alloc (by have := HB.out.size; omega) _⟩
end Go.Proofs.Ytbjfacfphgnhpaa
