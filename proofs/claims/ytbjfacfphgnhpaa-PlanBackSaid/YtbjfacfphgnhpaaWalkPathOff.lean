/- Walks: walk.Path of what is no node. -/
import Derived.Test.YtbjfacfphgnhpaaWalkPath
namespace Go.Proofs.Ytbjfacfphgnhpaa
open Go.RowKit WalkM
set_option maxRecDepth 100000 in
set_option maxHeartbeats 1000000 in
theorem path_off (x n : Int) (w : World) (h1 : -9223372036854775808 ≤ n) (h2 : n ≤ 9223372036854775807) (ho : isOf x n = false) :
    Calls Try.prog 29 #[.int .i64 x, .int .i64 n] w fun e w' => e = .returned (.slice none 0 0) ∧ ∃ k, w' = w.drewN k := by
  have P := fun w => parent_any x n w h1 h2
  have e : parZ x n = -1 := by rw [parZ, if_neg (by rw [ho]; simp)]
  rw [e] at P
  have HP := Lib.hid P
  clear P e h1 h2 ho
  go_enter Try.func29, Try.ntmps29
  go_wp2_with fail
  refine (HP.out _).mono ?_
  rintro e w' ⟨rfl, k, rfl⟩
  go_wp2_with fail
  go_loopg [0, 5] 0 (fun _ y r wr => y = .int .i64 (-1) ∧ r = .slice none 0 0 ∧ wr = w.drewN k)
  case atStart => exact ⟨rfl, rfl, rfl⟩
  case round =>
    obtain ⟨rfl, rfl, rfl⟩ := hrel
    go_wp2_with fail
    go_ret
    exact ⟨rfl, _, rfl⟩
/-- what a node of a tree is -/
theorem isOf_out {x n : Int} (h : isOf x n = true) : ∃ m d : Nat, x = (m : Int) ∧ n = ((2 ^ d : Nat) : Int) ∧ d ≤ 16 ∧ m + 1 < 2 ^ (d + 1) := by
  have hb := isOf_bd h
  unfold isOf at h
  rw [Bool.and_eq_true] at h
  obtain ⟨d, hd, e⟩ := (fits_iff _).1 h.1
  refine ⟨x.toNat, d, by omega, by omega, hd, ?_⟩
  rw [Nat.pow_succ]; omega
/-- the path up, for any x and n -/
def pathL (x n : Int) : List Nat := if isOf x n = true then ups x.toNat (lev x.toNat) (Nat.log2 n.toNat - lev x.toNat) else []
theorem pathL_of {x d : Nat} (hd : d ≤ 16) (hx : x + 1 < 2 ^ (d + 1)) : pathL (x : Int) ((2 ^ d : Nat) : Int) = ups x (lev x) (d - lev x) := by
  rw [pathL, if_pos (by rw [isOf_nat hd, decide_eq_true hx]), Int.toNat_natCast, Int.toNat_natCast, Nat.log2_two_pow]
theorem pathL_off {x n : Int} (h : isOf x n = false) : pathL x n = [] := by rw [pathL, if_neg (by rw [h]; simp)]
theorem path_all (x n : Int) (w : World) (h1 : -9223372036854775808 ≤ n) (h2 : n ≤ 9223372036854775807) :
    Calls Try.prog 29 #[.int .i64 x, .int .i64 n] w fun e w' => ∃ v, e = .returned v ∧ Own w' w.heap.size 3 v (nvs (pathL x n)) ∧ Below w.heap.size w w' := by
  by_cases h : isOf x n = true
  · obtain ⟨m, d, rfl, rfl, hd, hm⟩ := isOf_out h
    rw [pathL_of hd hm]
    exact path_any m d hd hm w
  · have hf : isOf x n = false := by rw [← Bool.not_eq_true]; exact h
    rw [pathL_off hf]
    refine (path_off x n w h1 h2 hf).mono ?_
    rintro e w' ⟨rfl, k, rfl⟩
    exact ⟨_, rfl, Own.nil _ _ _, below_drewN' (Below.refl _ _) _⟩
end Go.Proofs.Ytbjfacfphgnhpaa
