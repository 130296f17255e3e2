/- Walks: walk.Under, walk.Span. -/
import Derived.Test.YtbjfacfphgnhpaaWalkParent
namespace Go.Proofs.Ytbjfacfphgnhpaa
open Go.RowKit WalkM

def wideZ (y : Int) : Int := 2 ^ (levZ y).toNat - 1
def undZ (x y : Int) : Bool := isNode x && isNode y && decide (y - wideZ y ≤ x ∧ x ≤ y + wideZ y)
set_option maxRecDepth 100000 in
set_option maxHeartbeats 1000000 in
theorem under_any (x y : Int) (w : World) :
    Calls Try.prog 35 #[.int .i64 x, .int .i64 y] w fun e w' => e = .returned (.bool (undZ x y)) ∧ w = w' := by
  have N := node_any x
  by_cases hx : isNode x = true
  · rw [hx] at N
    have HN := Lib.hid N
    have M := node_any y
    clear N
    by_cases hy : isNode y = true
    · rw [hy] at M
      have HM := Lib.hid M
      have e : undZ x y = decide (y - wideZ y ≤ x ∧ x ≤ y + wideZ y) := by rw [undZ, hx, hy]; rfl
      rw [e]
      have x' := of_decide_eq_true hx
      have y' := of_decide_eq_true hy
      clear hx hy e M
      obtain ⟨m, rfl⟩ : ∃ m : Nat, y = (m : Int) := ⟨y.toNat, by omega⟩
      have hm : m ≤ 131070 := by omega
      have L := level_any (m : Int)
      have ew : wideZ (m : Int) = 2 ^ (lev m) - 1 := by rw [wideZ, levZ_nat hm, Int.toNat_natCast]
      rw [ew]
      rw [levZ_nat hm] at L
      have hl := lev_le hm
      obtain ⟨l, hl'⟩ : ∃ l, l = lev m := ⟨_, rfl⟩
      rw [← hl'] at L hl ⊢
      have HL := Lib.hid L
      have q1 := two_pow_le (show l ≤ 16 by omega)
      have q2 := two_pow_pos l
      have ep : (2 : Int) ^ l = ((2 ^ l : Nat) : Int) := by simp
      rw [ep]
      have W1 := wrap_pow (show l ≤ 17 by omega)
      rw [ep] at W1
      obtain ⟨p, hp⟩ : ∃ p, p = 2 ^ l := ⟨_, rfl⟩
      rw [← hp] at q1 q2 W1 ep ⊢
      have HW := Lib.hid W1
      have HP := Lib.hid ep
      clear hl' L ew hp
      by_cases ha : (m : Int) - ((p : Int) - 1) ≤ x
      · have e : decide ((m : Int) - ((p : Int) - 1) ≤ x ∧ x ≤ (m : Int) + ((p : Int) - 1)) = decide (x ≤ (m : Int) + ((p : Int) - 1)) := by
          by_cases hb : x ≤ (m : Int) + ((p : Int) - 1)
          · rw [decide_eq_true ⟨ha, hb⟩, decide_eq_true hb]
          · rw [decide_eq_false (fun h => hb h.2), decide_eq_false hb]
        rw [e]
        clear e
        obtain ⟨b, hb⟩ : ∃ b, b = decide (x ≤ (m : Int) + ((p : Int) - 1)) := ⟨_, rfl⟩
        rw [← hb]
        have HB := Lib.hid hb
        clear hb
        go_enter Try.func35, Try.ntmps35
        go_wp2_with fail
        refine (HN.out _).mono ?_
        rintro e w' ⟨rfl, rfl⟩
        go_wp2_with fail
        refine (HM.out _).mono ?_
        rintro e w' ⟨rfl, rfl⟩
        go_wp2_with fail
        refine (HL.out _).mono ?_
        rintro e w' ⟨rfl, rfl⟩
        go_wp2_with fail
        go_ret
        exact ⟨ret_bool HB.out.symm, rfl⟩
      · rw [decide_eq_false (fun h => ha h.1)]
        go_enter Try.func35, Try.ntmps35
        go_wp2_with fail
        refine (HN.out _).mono ?_
        rintro e w' ⟨rfl, rfl⟩
        go_wp2_with fail
        refine (HM.out _).mono ?_
        rintro e w' ⟨rfl, rfl⟩
        go_wp2_with fail
        refine (HL.out _).mono ?_
        rintro e w' ⟨rfl, rfl⟩
        go_wp2_with fail
        go_ret
        exact ⟨rfl, rfl⟩
    · have hy' : isNode y = false := by rw [← Bool.not_eq_true]; exact hy
      rw [hy'] at M
      have HM := Lib.hid M
      have e : undZ x y = false := by rw [undZ, hy', Bool.and_false, Bool.false_and]
      rw [e]
      clear hx hy hy' e M
      go_enter Try.func35, Try.ntmps35
      go_wp2_with fail
      refine (HN.out _).mono ?_
      rintro e w' ⟨rfl, rfl⟩
      go_wp2_with fail
      refine (HM.out _).mono ?_
      rintro e w' ⟨rfl, rfl⟩
      go_wp2_with fail
      go_ret
      exact ⟨rfl, rfl⟩
  · have hx' : isNode x = false := by rw [← Bool.not_eq_true]; exact hx
    rw [hx'] at N
    have HN := Lib.hid N
    have e : undZ x y = false := by rw [undZ, hx', Bool.false_and, Bool.false_and]
    rw [e]
    clear hx hx' e N
    go_enter Try.func35, Try.ntmps35
    go_wp2_with fail
    refine (HN.out _).mono ?_
    rintro e w' ⟨rfl, rfl⟩
    go_wp2_with fail
    go_ret
    exact ⟨rfl, rfl⟩
end Go.Proofs.Ytbjfacfphgnhpaa
