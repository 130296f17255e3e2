/- Walks: the reference's Children. -/
import Derived.Test.YtngealmhgkoaiaaGreatZHashStands16
import Derived.Deep.QuietTactic
import Derived.BigQuiet
import Derived.IntWalk
import Derived.Test.YtngealmhgkoaiaaGreatZHashStands14
namespace Go.Proofs.YtngealmhgkoaiaaGreat
open Go.RowKit WalkM
theorem kids_eq {x : Nat} (hx : x ≤ 131070) (h : 0 < lev x) : ((plo x (lev x) : Int) + x - 1) / 2 = leftZ x ∧ ((x : Int) + 1 + phi x (lev x)) / 2 = rightZ x ∧ plo x (lev x) < phi x (lev x) := by
 have hl := levZ_nat hx
 have hs := anc_self (lev_is hx)
 rw [anc_plo] at hs
 obtain ⟨k, hk⟩ : ∃ k, lev x = k + 1 := ⟨lev x - 1, by omega⟩
 have hh : halfZ x = ((2 ^ k : Nat) : Int) := by
  rw [halfZ, hl, if_pos (by omega), hk]
  simp
 have hp := pow_pos' k
 unfold leftZ rightZ phi
 rw [hh, if_neg (by omega), if_neg (by omega)]
 rw [hk] at hs ⊢
 have e1 : 2 ^ (k + 1) = 2 * 2 ^ k := by rw [Nat.pow_succ]; omega
 have e2 : 2 ^ (k + 1 + 1) = 4 * 2 ^ k := by rw [Nat.pow_succ, e1]; omega
 rw [e1] at hs
 rw [e2]
 refine ⟨?_, ?_, ?_⟩ <;> omega
theorem kids_none {x : Int} (h : ¬ 0 < levZ x) : leftZ x = -1 ∧ rightZ x = -1 := by
 have e : halfZ x = 0 := by rw [halfZ, if_neg h]
 unfold leftZ rightZ
 rw [e]
 exact ⟨rfl, rfl⟩
set_option maxRecDepth 100000 in
set_option maxHeartbeats 1000000 in
theorem kids_any (x : Int) (w : World) :
  Calls Tryz.prog 85 #[.int .i64 x] w fun e w' => e = .returned (.tuple #[.int .i64 (leftZ x), .int .i64 (rightZ x)]) ∧ Below w.heap.size w w' := by
 by_cases hx : 0 ≤ x ∧ x ≤ 131070
 ·obtain ⟨m, rfl⟩ : ∃ m : Nat, x = (m : Int) := ⟨x.toNat, by omega⟩
  have hm : m ≤ 131070 := by omega
  have D := last_most m hm
  have hl16 := lev_le hm
  have hph := phi_le (x := m) (d := 16) (by omega) hl16
  by_cases hl : 0 < lev m
  ·have hk := kids_eq hm hl
   obtain ⟨lo, hlo⟩ : ∃ a, a = plo m (lev m) := ⟨_, rfl⟩
   obtain ⟨hi, hhi⟩ : ∃ a, a = phi m (lev m) := ⟨_, rfl⟩
   rw [← hlo, ← hhi] at D hk
   rw [← hhi] at hph
   obtain ⟨k1, k2, k3⟩ := hk
   have hc : ((lo : Int) == (hi : Int)) = false := by rw [beq_eq_false_iff_ne]; omega
   have hhi17 : hi ≤ 131070 := by omega
   have hm1 : (1 : Int) ≤ (lo : Int) + (m : Int) := by
    rcases Nat.eq_zero_or_pos m with h | h
    ·subst h; exact absurd hl (by decide)
    ·omega
   rw [← k1, ← k2]
   have HD := Lib.hid D
   clear D hl hlo hhi hph k1 k2 hx hl16
   go_enter Tryz.func85, Tryz.ntmps85
   go_wp2_with fail
   refine (HD.out _).mono ?_
   rintro e w1 ⟨rfl, hb⟩
   have HB := Lib.hid hb
   clear hb
   go_wp2_with fail
   go_quiet (fail)
   go_wp2_with fail
   go_ret2
   exact ⟨rfl, below_drewN' (HB.out.alloc (by have := HB.out.size; omega) _) _⟩
  ·have hlz := levZ_nat hm
   have hk := kids_none (x := (m : Int)) (by rw [hlz]; omega)
   have e0 : phi m (lev m) = plo m (lev m) := by unfold phi; rw [show lev m = 0 by omega]; rfl
   rw [hk.1, hk.2]
   obtain ⟨lo, hlo⟩ : ∃ a, a = plo m (lev m) := ⟨_, rfl⟩
   rw [e0, ← hlo] at D
   rw [e0, ← hlo] at hph
   have HD := Lib.hid D
   clear D hl hlo hk hx e0 hlz hl16
   go_enter Tryz.func85, Tryz.ntmps85
   go_wp2_with fail
   refine (HD.out _).mono ?_
   rintro e w1 ⟨rfl, hb⟩
   have HB := Lib.hid hb
   clear hb
   go_wp2_with fail
   go_ret2
   exact ⟨rfl, HB.out.alloc (by have := HB.out.size; omega) _⟩
 ·have hn : isNode x = false := by rw [isNode, decide_eq_false]; exact hx
  have D := last_none x hn
  have e : levZ x = -1 := by rw [levZ, if_neg (by rw [hn]; simp)]
  have hk := kids_none (x := x) (by rw [e]; omega)
  rw [hk.1, hk.2]
  have HD := Lib.hid D
  clear D e hn hx hk
  go_enter Tryz.func85, Tryz.ntmps85
  go_wp2_with fail
  refine (HD.out _).mono ?_
  rintro e w1 ⟨rfl, hb⟩
  have HB := Lib.hid hb
  clear hb
  go_wp2_with fail
  go_ret2
  exact ⟨rfl, HB.out.alloc (by have := HB.out.size; omega) _⟩
end Go.Proofs.YtngealmhgkoaiaaGreat
/- Walks: the reference's Parent, Sibling. -/
namespace Go.Proofs.YtngealmhgkoaiaaGreat
open Go.RowKit WalkM
end Go.Proofs.YtngealmhgkoaiaaGreat
/- Walks: the reference's Under, walk.Span. -/
namespace Go.Proofs.YtngealmhgkoaiaaGreat
open Go.RowKit WalkM
theorem wide_nat {y : Nat} (hy : y ≤ 131070) : wideZ (y : Int) = ((2 ^ lev y - 1 : Nat) : Int) := by
 have := pow_pos' (lev y)
 have e : (2 : Int) ^ lev y = ((2 ^ lev y : Nat) : Int) := by simp
 rw [wideZ, levZ_nat hy, Int.toNat_natCast, e]
 omega
theorem und_nat {x y : Nat} (hx : x ≤ 131070) (hy : y ≤ 131070) : undZ (x : Int) (y : Int) = decide (plo y (lev y) ≤ x ∧ x ≤ phi y (lev y)) := by
 have h1 : isNode (x : Int) = true := by rw [isNode, decide_eq_true]; omega
 have h2 : isNode (y : Int) = true := by rw [isNode, decide_eq_true]; omega
 have hs := anc_self (lev_is hy)
 rw [anc_plo] at hs
 have he : phi y (lev y) = plo y (lev y) + (2 ^ (lev y + 1) - 2) := rfl
 rw [Nat.pow_succ] at he
 have hp := pow_pos' (lev y)
 rw [undZ, h1, h2, wide_nat hy, Bool.true_and, Bool.true_and]
 apply decide_eq_decide.2
 constructor
 ·rintro ⟨a, b⟩; omega
 ·rintro ⟨a, b⟩; omega
set_option maxRecDepth 100000 in
set_option maxHeartbeats 1000000 in
theorem runder_any (x y : Int) (w : World) :
  Calls Tryz.prog 73 #[.int .i64 x, .int .i64 y] w fun e w' => e = .returned (.bool (undZ x y)) ∧ Below w.heap.size w w' := by
 by_cases hx : isNode x = true
 ·have hx' := of_decide_eq_true hx
  obtain ⟨m, rfl⟩ : ∃ m : Nat, x = (m : Int) := ⟨x.toNat, by omega⟩
  have hm : m ≤ 131070 := by omega
  have D := last_most m hm
  by_cases hy : isNode y = true
  ·have hy' := of_decide_eq_true hy
   obtain ⟨q, rfl⟩ : ∃ q : Nat, y = (q : Int) := ⟨y.toNat, by omega⟩
   have hq : q ≤ 131070 := by omega
   have E := last_most q hq
   rw [und_nat hm hq]
   obtain ⟨lo, hlo⟩ : ∃ a, a = plo q (lev q) := ⟨_, rfl⟩
   obtain ⟨hi, hhi⟩ : ∃ a, a = phi q (lev q) := ⟨_, rfl⟩
   rw [← hlo, ← hhi] at E ⊢
   have HD := Lib.hid D
   have HE := Lib.hid E
   clear D E hlo hhi hx hy hx' hy'
   have hd : (lo ≤ m ∧ m ≤ hi) ∨ (lo ≤ m ∧ ¬ m ≤ hi) ∨ ¬ lo ≤ m := by omega
   rcases hd with ⟨c1, c2⟩ | ⟨c1, c2⟩ | c1
   ·rw [decide_eq_true ⟨c1, c2⟩]
    have c1' : decide ((lo : Int) ≤ (m : Int)) = true := by rw [decide_eq_true]; omega
    have c2' : decide ((m : Int) ≤ (hi : Int)) = true := by rw [decide_eq_true]; omega
    go_enter Tryz.func73, Tryz.ntmps73
    go_wp2_with fail
    refine (HD.out _).mono ?_
    rintro e w1 ⟨rfl, hb⟩
    have HB := Lib.hid hb
    clear hb
    go_wp2_with fail
    refine (HE.out _).mono ?_
    rintro e w2 ⟨rfl, hb⟩
    have hk := boxAt hb
    have HB2 := Lib.hid hb
    have k0 := cell_of_row _ _ 0 _ _ _ hk
    simp only [List.getElem?_toArray, List.getElem?_cons_zero] at k0
    have z1 := HB.out.size
    have z2 := HB2.out.size
    have hz : w1.heap.size < w2.heap.size := by simp at z2; omega
    clear hb hk z2
    go_wp2_with fail
    go_ret
    refine ⟨rfl, ?_⟩
    exact ((HB.out.alloc z1 _).trans (HB2.out.mono (by simp; omega))).alloc (by omega) _
   ·have e : decide (lo ≤ m ∧ m ≤ hi) = false := by rw [decide_eq_false]; omega
    rw [e]
    clear e
    have c1' : decide ((lo : Int) ≤ (m : Int)) = true := by rw [decide_eq_true]; omega
    have c2' : decide ((m : Int) ≤ (hi : Int)) = false := by rw [decide_eq_false]; omega
    go_enter Tryz.func73, Tryz.ntmps73
    go_wp2_with fail
    refine (HD.out _).mono ?_
    rintro e w1 ⟨rfl, hb⟩
    have HB := Lib.hid hb
    clear hb
    go_wp2_with fail
    refine (HE.out _).mono ?_
    rintro e w2 ⟨rfl, hb⟩
    have hk := boxAt hb
    have HB2 := Lib.hid hb
    have k0 := cell_of_row _ _ 0 _ _ _ hk
    simp only [List.getElem?_toArray, List.getElem?_cons_zero] at k0
    have z1 := HB.out.size
    have z2 := HB2.out.size
    have hz : w1.heap.size < w2.heap.size := by simp at z2; omega
    clear hb hk z2
    go_wp2_with fail
    go_ret
    refine ⟨rfl, ?_⟩
    exact ((HB.out.alloc z1 _).trans (HB2.out.mono (by simp; omega))).alloc (by omega) _
   ·have e : decide (lo ≤ m ∧ m ≤ hi) = false := by rw [decide_eq_false]; omega
    rw [e]
    clear e
    have c1' : decide ((lo : Int) ≤ (m : Int)) = false := by rw [decide_eq_false]; omega
    go_enter Tryz.func73, Tryz.ntmps73
    go_wp2_with fail
    refine (HD.out _).mono ?_
    rintro e w1 ⟨rfl, hb⟩
    have HB := Lib.hid hb
    clear hb
    go_wp2_with fail
    refine (HE.out _).mono ?_
    rintro e w2 ⟨rfl, hb⟩
    have hk := boxAt hb
    have HB2 := Lib.hid hb
    have k0 := cell_of_row _ _ 0 _ _ _ hk
    simp only [List.getElem?_toArray, List.getElem?_cons_zero] at k0
    have z1 := HB.out.size
    have z2 := HB2.out.size
    have hz : w1.heap.size < w2.heap.size := by simp at z2; omega
    clear hb hk z2
    go_wp2_with fail
    go_ret
    refine ⟨rfl, ?_⟩
    exact ((HB.out.alloc z1 _).trans (HB2.out.mono (by simp; omega))).alloc (by omega) _
  ·have hf : isNode y = false := by rw [← Bool.not_eq_true]; exact hy
   have E := last_none y hf
   have e : undZ m y = false := by rw [undZ, hf, Bool.and_false, Bool.false_and]
   rw [e]
   have HD := Lib.hid D
   have HE := Lib.hid E
   clear D E e hx hy hx' hf
   go_enter Tryz.func73, Tryz.ntmps73
   go_wp2_with fail
   refine (HD.out _).mono ?_
   rintro e w1 ⟨rfl, hb⟩
   have HB := Lib.hid hb
   clear hb
   go_wp2_with fail
   refine (HE.out _).mono ?_
   rintro e w2 ⟨rfl, hb⟩
   have hk := boxAt hb
   have HB2 := Lib.hid hb
   have k0 := cell_of_row _ _ 0 _ _ _ hk
   simp only [List.getElem?_toArray, List.getElem?_cons_zero] at k0
   have z1 := HB.out.size
   have z2 := HB2.out.size
   have hz : w1.heap.size < w2.heap.size := by simp at z2; omega
   clear hb hk z2
   go_wp2_with fail
   go_ret
   refine ⟨rfl, ?_⟩
   exact ((HB.out.alloc z1 _).trans (HB2.out.mono (by simp; omega))).alloc (by omega) _
 ·have hf : isNode x = false := by rw [← Bool.not_eq_true]; exact hx
  have D := last_none x hf
  have e : undZ x y = false := by rw [undZ, hf, Bool.false_and, Bool.false_and]
  rw [e]
  have HD := Lib.hid D
  clear D e hx hf
  by_cases hy : isNode y = true
  ·have hy' := of_decide_eq_true hy
   obtain ⟨q, rfl⟩ : ∃ q : Nat, y = (q : Int) := ⟨y.toNat, by omega⟩
   have hq : q ≤ 131070 := by omega
   have E := last_most q hq
   have HE := Lib.hid E
   clear E hy hy'
   go_enter Tryz.func73, Tryz.ntmps73
   go_wp2_with fail
   refine (HD.out _).mono ?_
   rintro e w1 ⟨rfl, hb⟩
   have HB := Lib.hid hb
   clear hb
   go_wp2_with fail
   refine (HE.out _).mono ?_
   rintro e w2 ⟨rfl, hb⟩
   have hk := boxAt hb
   have HB2 := Lib.hid hb
   have k0 := cell_of_row _ _ 0 _ _ _ hk
   simp only [List.getElem?_toArray, List.getElem?_cons_zero] at k0
   have z1 := HB.out.size
   have z2 := HB2.out.size
   have hz : w1.heap.size < w2.heap.size := by simp at z2; omega
   clear hb hk z2
   go_wp2_with fail
   go_ret
   refine ⟨rfl, ?_⟩
   exact ((HB.out.alloc z1 _).trans (HB2.out.mono (by simp; omega))).alloc (by omega) _
  ·have hf : isNode y = false := by rw [← Bool.not_eq_true]; exact hy
   have E := last_none y hf
   have HE := Lib.hid E
   clear E hy hf
   go_enter Tryz.func73, Tryz.ntmps73
   go_wp2_with fail
   refine (HD.out _).mono ?_
   rintro e w1 ⟨rfl, hb⟩
   have HB := Lib.hid hb
   clear hb
   go_wp2_with fail
   refine (HE.out _).mono ?_
   rintro e w2 ⟨rfl, hb⟩
   have hk := boxAt hb
   have HB2 := Lib.hid hb
   have k0 := cell_of_row _ _ 0 _ _ _ hk
   simp only [List.getElem?_toArray, List.getElem?_cons_zero] at k0
   have z1 := HB.out.size
   have z2 := HB2.out.size
   have hz : w1.heap.size < w2.heap.size := by simp at z2; omega
   clear hb hk z2
   go_wp2_with fail
   go_ret
   refine ⟨rfl, ?_⟩
   exact ((HB.out.alloc z1 _).trans (HB2.out.mono (by simp; omega))).alloc (by omega) _
end Go.Proofs.YtngealmhgkoaiaaGreat
/- Plain mathematics: the lowest node above two. -/
namespace Go.Proofs.YtngealmhgkoaiaaGreat
open Go.RowKit WalkM
/-- what is beneath an ancestor -/
theorem und_anc {x y d j : Nat} (hd : d ≤ 16) (hx : x + 1 < 2 ^ (d + 1)) (hy : y + 1 < 2 ^ (d + 1)) (hj : j ≤ d) : undZ (y : Int) (anc x j : Nat) = decide (lev y ≤ j ∧ anc x j = anc y j) := by
 have h17 := two_pow_le (show d + 1 ≤ 17 by omega)
 have hle := anc_le (show x < 2 ^ (d + 1) by omega) hj
 have hal := anc_lev x j
 have hyl := lev_is (x := y) (by omega)
 rw [und_nat (by omega) (by omega), lev_eq (by omega) hal]
 have e1 : plo (anc x j) j = plo x j := by unfold plo; rw [anc_div (Nat.le_refl j)]
 have e2 : phi (anc x j) j = phi x j := by unfold phi; rw [e1]
 rw [e1, e2]
 apply decide_eq_decide.2
 have hp := pow_pos' (j + 1)
 have hb := anc_bounds y j
 have hm := Nat.div_add_mod y (2 ^ (j + 1))
 have hm2 := Nat.mod_lt y hp
 constructor
 ·rintro ⟨a, b⟩
  have hq : y / 2 ^ (j + 1) = x / 2 ^ (j + 1) := by
   unfold phi plo at b
   unfold plo at a
   refine (Nat.div_eq_of_lt_le ?_ ?_)
   ·exact a
   ·rw [Nat.add_mul, Nat.one_mul]
    have := pow_pos' j
    have e4 : 2 ^ (j + 1) = 2 * 2 ^ j := by rw [Nat.pow_succ]; omega
    omega
  refine ⟨?_, by unfold anc; rw [hq]⟩
  rcases Nat.lt_or_ge j (lev y) with hlt | hge
  ·exfalso
   unfold IsLev at hyl
   have h1 : y % 2 ^ (j + 1) = 2 ^ (j + 1) - 1 := by
    have h2 : y % 2 ^ (lev y + 1) % 2 ^ (j + 1) = y % 2 ^ (j + 1) := Nat.mod_mod_of_dvd _ (Nat.pow_dvd_pow 2 (by omega))
    rw [hyl, ones_mod (by omega)] at h2
    exact h2.symm
   unfold phi plo at b
   rw [← hq, Nat.mul_comm] at b
   have := pow_pos' j
   have e4 : 2 ^ (j + 1) = 2 * 2 ^ j := by rw [Nat.pow_succ]; omega
   omega
  ·exact hge
 ·rintro ⟨a, b⟩
  have hq : x / 2 ^ (j + 1) = y / 2 ^ (j + 1) := by
   rw [← anc_div (x := x) (Nat.le_refl j), b, anc_div (Nat.le_refl j)]
  unfold phi plo
  rw [hq]
  refine ⟨hb.1, ?_⟩
  have e4 : 2 ^ (j + 1) = 2 * 2 ^ j := by rw [Nat.pow_succ]; omega
  have hpj := pow_pos' j
  have hne : y % 2 ^ (j + 1) ≠ 2 ^ (j + 1) - 1 := by
   intro h
   unfold IsLev at hyl
   have h2 : y % 2 ^ (j + 1) % 2 ^ (lev y + 1) = y % 2 ^ (lev y + 1) := Nat.mod_mod_of_dvd _ (Nat.pow_dvd_pow 2 (by omega))
   rw [h, ones_mod (by omega), hyl, Nat.pow_succ] at h2
   have := pow_pos' (lev y)
   omega
  rw [Nat.mul_comm] at hm
  omega
end Go.Proofs.YtngealmhgkoaiaaGreat
/- Walks: the reference's Path, Copath; walk.Copath. -/
namespace Go.Proofs.YtngealmhgkoaiaaGreat
open Go.RowKit WalkM
end Go.Proofs.YtngealmhgkoaiaaGreat
/- Walks: the reference's Copath, walk.Copath. -/
namespace Go.Proofs.YtngealmhgkoaiaaGreat
open Go.RowKit WalkM
theorem ivs_snoc (k : IntKind) (L : List Int) (x : Int) : ivs k (L ++ [x]) = ivs k L ++ [.int k x] := by simp [ivs]
theorem ivs_len (k : IntKind) (L : List Int) : (ivs k L).length = L.length := by simp [ivs]
end Go.Proofs.YtngealmhgkoaiaaGreat
