/- Walks: the reference's Children. -/
import Derived.Test.YtngealmhgkoaiaaGreatZTreeBytes16
import Derived.Deep.QuietTactic
import Derived.BigQuiet
import Derived.IntWalk
import Derived.Test.YtngealmhgkoaiaaGreatZTreeBytes15
namespace Go.Proofs.YtngealmhgkoaiaaGreat
open Go.RowKit WalkM
theorem kids_eq {x : Nat} (hx : x ≤ 131070) (h : 0 < lev x) : ((plo x (lev x) : Int) + x - 1) / 2 = leftZ x ∧ ((x : Int) + 1 + phi x (lev x)) / 2 = rightZ x ∧ plo x (lev x) < phi x (lev x) := by
  have hl := levZ_nat hx
  have hs := anc_self (lev_is hx)
  rw [anc_plo] at hs
  obtain ⟨k, hk⟩ : ∃ k, lev x = k + 1 := ⟨lev x - 1, by omega⟩
  have hh : halfZ x = ((2 ^ k : Nat) : Int) := by
    rw [halfZ, hl, if_pos (by omega), hk]
    simp
  have hp := pow_pos' k
  unfold leftZ rightZ phi
  rw [hh, if_neg (by omega), if_neg (by omega)]
  rw [hk] at hs ⊢
  have e1 : 2 ^ (k + 1) = 2 * 2 ^ k := by rw [Nat.pow_succ]; omega
  have e2 : 2 ^ (k + 1 + 1) = 4 * 2 ^ k := by rw [Nat.pow_succ, e1]; omega
  rw [e1] at hs
  rw [e2]
  refine ⟨?_, ?_, ?_⟩ <;> omega
theorem kids_none {x : Int} (h : ¬ 0 < levZ x) : leftZ x = -1 ∧ rightZ x = -1 := by
  have e : halfZ x = 0 := by rw [halfZ, if_neg h]
  unfold leftZ rightZ
  rw [e]
  exact ⟨rfl, rfl⟩
set_option maxRecDepth 100000 in
set_option maxHeartbeats 1000000 in
theorem kids_any (x : Int) (w : World) :
    Calls Tryz.prog 85 #[.int .i64 x] w fun e w' => e = .returned (.tuple #[.int .i64 (leftZ x), .int .i64 (rightZ x)]) ∧ Below w.heap.size w w' := by
  by_cases hx : 0 ≤ x ∧ x ≤ 131070
  · obtain ⟨m, rfl⟩ : ∃ m : Nat, x = (m : Int) := ⟨x.toNat, by omega⟩
    have hm : m ≤ 131070 := by omega
    have D := last_most m hm
    have hl16 := lev_le hm
    have hph := phi_le (x := m) (d := 16) (by omega) hl16
    by_cases hl : 0 < lev m
    · have hk := kids_eq hm hl
      obtain ⟨lo, hlo⟩ : ∃ a, a = plo m (lev m) := ⟨_, rfl⟩
      obtain ⟨hi, hhi⟩ : ∃ a, a = phi m (lev m) := ⟨_, rfl⟩
      rw [← hlo, ← hhi] at D hk
      rw [← hhi] at hph
      obtain ⟨k1, k2, k3⟩ := hk
      have hc : ((lo : Int) == (hi : Int)) = false := by rw [beq_eq_false_iff_ne]; omega
      have hhi17 : hi ≤ 131070 := by omega
      have hm1 : (1 : Int) ≤ (lo : Int) + (m : Int) := by
        rcases Nat.eq_zero_or_pos m with h | h
        · subst h; exact absurd hl (by decide)
        · omega
      rw [← k1, ← k2]
      have HD := Lib.hid D
      clear D hl hlo hhi hph k1 k2 hx hl16
      go_enter Tryz.func85, Tryz.ntmps85
      go_wp2_with fail
      refine (HD.out _).mono ?_
      rintro e w1 ⟨rfl, hb⟩
      have HB := Lib.hid hb
      clear hb
      go_wp2_with fail
      go_quiet (fail)
      go_wp2_with fail
      go_ret2
      exact ⟨rfl, below_drewN' (HB.out.alloc (by have := HB.out.size; omega) _) _⟩
    · have hlz := levZ_nat hm
      have hk := kids_none (x := (m : Int)) (by rw [hlz]; omega)
      have e0 : phi m (lev m) = plo m (lev m) := by unfold phi; rw [show lev m = 0 by omega]; rfl
      rw [hk.1, hk.2]
      obtain ⟨lo, hlo⟩ : ∃ a, a = plo m (lev m) := ⟨_, rfl⟩
      rw [e0, ← hlo] at D
      rw [e0, ← hlo] at hph
      have HD := Lib.hid D
      clear D hl hlo hk hx e0 hlz hl16
      go_enter Tryz.func85, Tryz.ntmps85
      go_wp2_with fail
      refine (HD.out _).mono ?_
      rintro e w1 ⟨rfl, hb⟩
      have HB := Lib.hid hb
      clear hb
      go_wp2_with fail
      go_ret2
      exact ⟨rfl, HB.out.alloc (by have := HB.out.size; omega) _⟩
  · have hn : isNode x = false := by rw [isNode, decide_eq_false]; exact hx
    have D := last_none x hn
    have e : levZ x = -1 := by rw [levZ, if_neg (by rw [hn]; simp)]
    have hk := kids_none (x := x) (by rw [e]; omega)
    rw [hk.1, hk.2]
    have HD := Lib.hid D
    clear D e hn hx hk
    go_enter Tryz.func85, Tryz.ntmps85
    go_wp2_with fail
    refine (HD.out _).mono ?_
    rintro e w1 ⟨rfl, hb⟩
    have HB := Lib.hid hb
    clear hb
    go_wp2_with fail
    go_ret2
    exact ⟨rfl, HB.out.alloc (by have := HB.out.size; omega) _⟩
end Go.Proofs.YtngealmhgkoaiaaGreat
/- Walks: the reference's Parent, Sibling. -/
namespace Go.Proofs.YtngealmhgkoaiaaGreat
open Go.RowKit WalkM
theorem dnodes_at (x d k i : Nat) (h : i < k) : (dnodes x d k)[i * 3]? = some (.int .i64 (anc x (d - i) : Nat)) := by
  have h := dnodes_get x d k i 0 h (by omega)
  rw [Nat.add_zero] at h
  exact h
set_option maxRecDepth 100000 in
set_option maxHeartbeats 1000000 in
theorem rparent_any (x n : Int) (w : World) (h1 : -9223372036854775808 ≤ n) (h2 : n ≤ 9223372036854775807) :
    Calls Tryz.prog 188 #[.int .i64 x, .int .i64 n] w fun e w' => e = .returned (.int .i64 (parZ x n)) ∧ Below w.heap.size w w' := by
  by_cases ho : isOf x n = true
  · obtain ⟨m, d, rfl, rfl, hd, hm⟩ := isOf_out ho
    have D := fun w => down_on m d hd hm w
    have h17 := two_pow_le (show d + 1 ≤ 17 by omega)
    have hl := (lev_root hm (lev_is (x := m) (by omega))).1
    rw [parZ_nat hd hm, nxt]
    have g0 := dnodes_at m d (d - lev m + 1) (d - lev m - 1)
    obtain ⟨l, hl'⟩ : ∃ l, l = lev m := ⟨_, rfl⟩
    rw [← hl'] at D hl g0 ⊢
    clear h17 hm h1 h2 ho hl'
    by_cases hlt : l < d
    · rw [if_pos hlt]
      have g := g0 (by omega)
      rw [show d - (d - l - 1) = l + 1 by omega] at g
      obtain ⟨k, hk⟩ : ∃ k, d - l = k + 1 := ⟨d - l - 1, by omega⟩
      rw [hk] at D g
      rw [show k + 1 - 1 = k by omega] at g
      have hk16 : k ≤ 16 := by omega
      obtain ⟨a, ha⟩ : ∃ a, a = anc m (l + 1) := ⟨_, rfl⟩
      rw [← ha] at g ⊢
      have G := Lib.hid g
      have HD := Lib.hid D
      clear D g g0 hlt hk ha hl
      go_enter Tryz.func188, Tryz.ntmps188
      go_wp2_with fail
      refine (HD.out _).mono ?_
      rintro e w1 ⟨v, rfl, hown, hb⟩
      obtain ⟨g, cap, rfl, hg, hgl, hn, hmx, hc, -⟩ := hown.out (by omega)
      have c0 := hc _ _ G.out
      have HB := Lib.hid hb
      clear hc hown hb
      go_wp2_with fail
      go_ret
      exact ⟨rfl, HB.out⟩
    · rw [if_neg hlt]
      obtain rfl : l = d := by omega
      have HD := Lib.hid D
      rw [show l - l = 0 by omega] at HD
      clear D g0 hlt
      go_enter Tryz.func188, Tryz.ntmps188
      go_wp2_with fail
      refine (HD.out _).mono ?_
      rintro e w1 ⟨v, rfl, hown, hb⟩
      obtain ⟨g, cap, rfl, hg, hgl, hn, hmx, hc, -⟩ := hown.out (by omega)
      have HB := Lib.hid hb
      clear hc hown hb
      go_wp2_with fail
      go_ret
      exact ⟨rfl, HB.out⟩
  · have hf : isOf x n = false := by rw [← Bool.not_eq_true]; exact ho
    have e : parZ x n = -1 := by rw [parZ, if_neg (by rw [hf]; simp)]
    rw [e]
    have HD := Lib.hid (fun w => down_off x n w h1 h2 hf)
    clear hf ho e h1 h2
    go_enter Tryz.func188, Tryz.ntmps188
    go_wp2_with fail
    refine (HD.out _).mono ?_
    rintro e w1 ⟨rfl, rfl⟩
    go_wp2_with fail
    go_ret
    exact ⟨rfl, Below.refl _ _⟩
/-- of a node's parent one child is the node itself -/
theorem kids_par {x n : Int} (h : 0 ≤ parZ x n) : (x < parZ x n → leftZ (parZ x n) = x) ∧ (¬ x < parZ x n → leftZ (parZ x n) ≠ x ∧ rightZ (parZ x n) = x) := by
  obtain ⟨ho, hr⟩ := (parZ_bd x n).2 h
  obtain ⟨m, d, rfl, rfl, hd, hm⟩ := isOf_out ho
  have h17 := two_pow_le (show d + 1 ≤ 17 by omega)
  have hlv := lev_is (x := m) (by omega)
  have hl := lev_root hm hlv
  have hs := anc_self hlv
  rw [parZ_nat hd hm, nxt]
  have hlt : lev m < d := by
    rcases Nat.lt_or_ge (lev m) d with h | h
    · exact h
    · exfalso
      apply hr
      have := hl.2.1 (by omega)
      have hp := pow_pos' d
      omega
  rw [if_pos hlt]
  have hh := halves m (lev m)
  have hal := anc_lev m (lev m + 1)
  have hle := anc_le (x := m) (d := d) (j := lev m + 1) (by omega) (by omega)
  rw [anc_plo] at hs
  obtain ⟨a, ha⟩ : ∃ a, a = anc m (lev m + 1) := ⟨_, rfl⟩
  rw [← ha] at hh hal hle ⊢
  have hla := lev_eq (by omega) hal
  have hz := levZ_nat (x := a) (by omega)
  have hp := pow_pos' (lev m)
  have e : halfZ (a : Int) = ((2 ^ lev m : Nat) : Int) := by
    rw [halfZ, hz, hla, if_pos (by omega)]
    simp
  unfold leftZ rightZ
  rw [e, if_neg (by omega), if_neg (by omega)]
  have he : phi m (lev m) = plo m (lev m) + (2 ^ (lev m + 1) - 2) := rfl
  rw [Nat.pow_succ] at he
  refine ⟨fun h => ?_, fun h => ⟨?_, ?_⟩⟩
  all_goals
    rcases hh with ⟨k1, k2, k3⟩ | ⟨k1, k2, k3⟩ <;> omega
set_option maxRecDepth 100000 in
set_option maxHeartbeats 1000000 in
theorem rsib_any (x n : Int) (w : World) (h1 : -9223372036854775808 ≤ n) (h2 : n ≤ 9223372036854775807) :
    Calls Tryz.prog 119 #[.int .i64 x, .int .i64 n] w fun e w' => e = .returned (.int .i64 (sibZ x n)) ∧ Below w.heap.size w w' := by
  have P := fun w => rparent_any x n w h1 h2
  have hk := @kids_par x n
  unfold sibZ
  obtain ⟨p, hp⟩ : ∃ p, p = parZ x n := ⟨_, rfl⟩
  rw [← hp] at P hk ⊢
  have K := fun w => kids_any p w
  have HP := Lib.hid P
  have HK := Lib.hid K
  clear P K hp h1 h2
  by_cases hn : p < 0
  · rw [if_pos hn]
    clear hk
    go_enter Tryz.func119, Tryz.ntmps119
    go_wp2_with fail
    refine (HP.out _).mono ?_
    rintro e w1 ⟨rfl, hb⟩
    have HB := Lib.hid hb
    clear hb
    go_wp2_with fail
    go_ret
    exact ⟨rfl, HB.out⟩
  · rw [if_neg hn]
    have hk := hk (by omega)
    obtain ⟨l, hl⟩ : ∃ l, l = leftZ p := ⟨_, rfl⟩
    obtain ⟨r, hr⟩ : ∃ r, r = rightZ p := ⟨_, rfl⟩
    rw [← hl, ← hr] at HK hk ⊢
    by_cases hx : x < p
    · rw [if_pos hx]
      obtain rfl := hk.1 hx
      clear hk hl hr hx
      go_enter Tryz.func119, Tryz.ntmps119
      go_wp2_with fail
      refine (HP.out _).mono ?_
      rintro e w1 ⟨rfl, hb⟩
      have HB := Lib.hid hb
      clear hb
      go_wp2_with fail
      refine (HK.out _).mono ?_
      rintro e w2 ⟨rfl, hb⟩
      have HB2 := Lib.hid hb
      clear hb
      go_wp2_with fail
      go_ret
      exact ⟨rfl, HB.out.trans (HB2.out.mono HB.out.size)⟩
    · rw [if_neg hx]
      have hc : (l == x) = false := by rw [beq_eq_false_iff_ne]; exact (hk.2 hx).1
      clear hk hl hr hx
      go_enter Tryz.func119, Tryz.ntmps119
      go_wp2_with fail
      refine (HP.out _).mono ?_
      rintro e w1 ⟨rfl, hb⟩
      have HB := Lib.hid hb
      clear hb
      go_wp2_with fail
      refine (HK.out _).mono ?_
      rintro e w2 ⟨rfl, hb⟩
      have HB2 := Lib.hid hb
      clear hb
      go_wp2_with fail
      go_ret
      exact ⟨rfl, HB.out.trans (HB2.out.mono HB.out.size)⟩
end Go.Proofs.YtngealmhgkoaiaaGreat
/- Walks: the reference's Under, walk.Span. -/
namespace Go.Proofs.YtngealmhgkoaiaaGreat
open Go.RowKit WalkM
theorem wide_nat {y : Nat} (hy : y ≤ 131070) : wideZ (y : Int) = ((2 ^ lev y - 1 : Nat) : Int) := by
  have := pow_pos' (lev y)
  have e : (2 : Int) ^ lev y = ((2 ^ lev y : Nat) : Int) := by simp
  rw [wideZ, levZ_nat hy, Int.toNat_natCast, e]
  omega
theorem und_nat {x y : Nat} (hx : x ≤ 131070) (hy : y ≤ 131070) : undZ (x : Int) (y : Int) = decide (plo y (lev y) ≤ x ∧ x ≤ phi y (lev y)) := by
  have h1 : isNode (x : Int) = true := by rw [isNode, decide_eq_true]; omega
  have h2 : isNode (y : Int) = true := by rw [isNode, decide_eq_true]; omega
  have hs := anc_self (lev_is hy)
  rw [anc_plo] at hs
  have he : phi y (lev y) = plo y (lev y) + (2 ^ (lev y + 1) - 2) := rfl
  rw [Nat.pow_succ] at he
  have hp := pow_pos' (lev y)
  rw [undZ, h1, h2, wide_nat hy, Bool.true_and, Bool.true_and]
  apply decide_eq_decide.2
  constructor
  · rintro ⟨a, b⟩; omega
  · rintro ⟨a, b⟩; omega
set_option maxRecDepth 100000 in
set_option maxHeartbeats 1000000 in
theorem runder_any (x y : Int) (w : World) :
    Calls Tryz.prog 73 #[.int .i64 x, .int .i64 y] w fun e w' => e = .returned (.bool (undZ x y)) ∧ Below w.heap.size w w' := by
  by_cases hx : isNode x = true
  · have hx' := of_decide_eq_true hx
    obtain ⟨m, rfl⟩ : ∃ m : Nat, x = (m : Int) := ⟨x.toNat, by omega⟩
    have hm : m ≤ 131070 := by omega
    have D := last_most m hm
    by_cases hy : isNode y = true
    · have hy' := of_decide_eq_true hy
      obtain ⟨q, rfl⟩ : ∃ q : Nat, y = (q : Int) := ⟨y.toNat, by omega⟩
      have hq : q ≤ 131070 := by omega
      have E := last_most q hq
      rw [und_nat hm hq]
      obtain ⟨lo, hlo⟩ : ∃ a, a = plo q (lev q) := ⟨_, rfl⟩
      obtain ⟨hi, hhi⟩ : ∃ a, a = phi q (lev q) := ⟨_, rfl⟩
      rw [← hlo, ← hhi] at E ⊢
      have HD := Lib.hid D
      have HE := Lib.hid E
      clear D E hlo hhi hx hy hx' hy'
      have hd : (lo ≤ m ∧ m ≤ hi) ∨ (lo ≤ m ∧ ¬ m ≤ hi) ∨ ¬ lo ≤ m := by omega
      rcases hd with ⟨c1, c2⟩ | ⟨c1, c2⟩ | c1
      · rw [decide_eq_true ⟨c1, c2⟩]
        have c1' : decide ((lo : Int) ≤ (m : Int)) = true := by rw [decide_eq_true]; omega
        have c2' : decide ((m : Int) ≤ (hi : Int)) = true := by rw [decide_eq_true]; omega
        go_enter Tryz.func73, Tryz.ntmps73
        go_wp2_with fail
        refine (HD.out _).mono ?_
        rintro e w1 ⟨rfl, hb⟩
        have HB := Lib.hid hb
        clear hb
        go_wp2_with fail
        refine (HE.out _).mono ?_
        rintro e w2 ⟨rfl, hb⟩
        have hk := boxAt hb
        have HB2 := Lib.hid hb
        have k0 := cell_of_row _ _ 0 _ _ _ hk
        simp only [List.getElem?_toArray, List.getElem?_cons_zero] at k0
        have z1 := HB.out.size
        have z2 := HB2.out.size
        have hz : w1.heap.size < w2.heap.size := by simp at z2; omega
        clear hb hk z2
        go_wp2_with fail
        go_ret
        refine ⟨rfl, ?_⟩
        exact ((HB.out.alloc z1 _).trans (HB2.out.mono (by simp; omega))).alloc (by omega) _
      · have e : decide (lo ≤ m ∧ m ≤ hi) = false := by rw [decide_eq_false]; omega
        rw [e]
        clear e
        have c1' : decide ((lo : Int) ≤ (m : Int)) = true := by rw [decide_eq_true]; omega
        have c2' : decide ((m : Int) ≤ (hi : Int)) = false := by rw [decide_eq_false]; omega
        go_enter Tryz.func73, Tryz.ntmps73
        go_wp2_with fail
        refine (HD.out _).mono ?_
        rintro e w1 ⟨rfl, hb⟩
        have HB := Lib.hid hb
        clear hb
        go_wp2_with fail
        refine (HE.out _).mono ?_
        rintro e w2 ⟨rfl, hb⟩
        have hk := boxAt hb
        have HB2 := Lib.hid hb
        have k0 := cell_of_row _ _ 0 _ _ _ hk
        simp only [List.getElem?_toArray, List.getElem?_cons_zero] at k0
        have z1 := HB.out.size
        have z2 := HB2.out.size
        have hz : w1.heap.size < w2.heap.size := by simp at z2; omega
        clear hb hk z2
        go_wp2_with fail
        go_ret
        refine ⟨rfl, ?_⟩
        exact ((HB.out.alloc z1 _).trans (HB2.out.mono (by simp; omega))).alloc (by omega) _
      · have e : decide (lo ≤ m ∧ m ≤ hi) = false := by rw [decide_eq_false]; omega
        rw [e]
        clear e
        have c1' : decide ((lo : Int) ≤ (m : Int)) = false := by rw [decide_eq_false]; omega
        go_enter Tryz.func73, Tryz.ntmps73
        go_wp2_with fail
        refine (HD.out _).mono ?_
        rintro e w1 ⟨rfl, hb⟩
        have HB := Lib.hid hb
        clear hb
        go_wp2_with fail
        refine (HE.out _).mono ?_
        rintro e w2 ⟨rfl, hb⟩
        have hk := boxAt hb
        have HB2 := Lib.hid hb
        have k0 := cell_of_row _ _ 0 _ _ _ hk
        simp only [List.getElem?_toArray, List.getElem?_cons_zero] at k0
        have z1 := HB.out.size
        have z2 := HB2.out.size
        have hz : w1.heap.size < w2.heap.size := by simp at z2; omega
        clear hb hk z2
        go_wp2_with fail
        go_ret
        refine ⟨rfl, ?_⟩
        exact ((HB.out.alloc z1 _).trans (HB2.out.mono (by simp; omega))).alloc (by omega) _
    · have hf : isNode y = false := by rw [← Bool.not_eq_true]; exact hy
      have E := last_none y hf
      have e : undZ m y = false := by rw [undZ, hf, Bool.and_false, Bool.false_and]
      rw [e]
      have HD := Lib.hid D
      have HE := Lib.hid E
      clear D E e hx hy hx' hf
      go_enter Tryz.func73, Tryz.ntmps73
      go_wp2_with fail
      refine (HD.out _).mono ?_
      rintro e w1 ⟨rfl, hb⟩
      have HB := Lib.hid hb
      clear hb
      go_wp2_with fail
      refine (HE.out _).mono ?_
      rintro e w2 ⟨rfl, hb⟩
      have hk := boxAt hb
      have HB2 := Lib.hid hb
      have k0 := cell_of_row _ _ 0 _ _ _ hk
      simp only [List.getElem?_toArray, List.getElem?_cons_zero] at k0
      have z1 := HB.out.size
      have z2 := HB2.out.size
      have hz : w1.heap.size < w2.heap.size := by simp at z2; omega
      clear hb hk z2
      go_wp2_with fail
      go_ret
      refine ⟨rfl, ?_⟩
      exact ((HB.out.alloc z1 _).trans (HB2.out.mono (by simp; omega))).alloc (by omega) _
  · have hf : isNode x = false := by rw [← Bool.not_eq_true]; exact hx
    have D := last_none x hf
    have e : undZ x y = false := by rw [undZ, hf, Bool.false_and, Bool.false_and]
    rw [e]
    have HD := Lib.hid D
    clear D e hx hf
    by_cases hy : isNode y = true
    · have hy' := of_decide_eq_true hy
      obtain ⟨q, rfl⟩ : ∃ q : Nat, y = (q : Int) := ⟨y.toNat, by omega⟩
      have hq : q ≤ 131070 := by omega
      have E := last_most q hq
      have HE := Lib.hid E
      clear E hy hy'
      go_enter Tryz.func73, Tryz.ntmps73
      go_wp2_with fail
      refine (HD.out _).mono ?_
      rintro e w1 ⟨rfl, hb⟩
      have HB := Lib.hid hb
      clear hb
      go_wp2_with fail
      refine (HE.out _).mono ?_
      rintro e w2 ⟨rfl, hb⟩
      have hk := boxAt hb
      have HB2 := Lib.hid hb
      have k0 := cell_of_row _ _ 0 _ _ _ hk
      simp only [List.getElem?_toArray, List.getElem?_cons_zero] at k0
      have z1 := HB.out.size
      have z2 := HB2.out.size
      have hz : w1.heap.size < w2.heap.size := by simp at z2; omega
      clear hb hk z2
      go_wp2_with fail
      go_ret
      refine ⟨rfl, ?_⟩
      exact ((HB.out.alloc z1 _).trans (HB2.out.mono (by simp; omega))).alloc (by omega) _
    · have hf : isNode y = false := by rw [← Bool.not_eq_true]; exact hy
      have E := last_none y hf
      have HE := Lib.hid E
      clear E hy hf
      go_enter Tryz.func73, Tryz.ntmps73
      go_wp2_with fail
      refine (HD.out _).mono ?_
      rintro e w1 ⟨rfl, hb⟩
      have HB := Lib.hid hb
      clear hb
      go_wp2_with fail
      refine (HE.out _).mono ?_
      rintro e w2 ⟨rfl, hb⟩
      have hk := boxAt hb
      have HB2 := Lib.hid hb
      have k0 := cell_of_row _ _ 0 _ _ _ hk
      simp only [List.getElem?_toArray, List.getElem?_cons_zero] at k0
      have z1 := HB.out.size
      have z2 := HB2.out.size
      have hz : w1.heap.size < w2.heap.size := by simp at z2; omega
      clear hb hk z2
      go_wp2_with fail
      go_ret
      refine ⟨rfl, ?_⟩
      exact ((HB.out.alloc z1 _).trans (HB2.out.mono (by simp; omega))).alloc (by omega) _
def spanZ (x : Int) : Int × Int := if isNode x = true then ((x - wideZ x) / 2, (x + wideZ x) / 2) else (-1, -1)
end Go.Proofs.YtngealmhgkoaiaaGreat
/- Plain mathematics: the lowest node above two. -/
namespace Go.Proofs.YtngealmhgkoaiaaGreat
open Go.RowKit WalkM
/-- the level of the lowest node above both -/
def com (x y : Nat) : Nat := ((List.range 17).find? fun j => decide (lev x ≤ j) && (decide (lev y ≤ j) && (anc x j == anc y j))).getD 0
def IsCom (x y j : Nat) : Prop := lev x ≤ j ∧ lev y ≤ j ∧ anc x j = anc y j ∧ ∀ i, lev x ≤ i → lev y ≤ i → i < j → anc x i ≠ anc y i
theorem com_of {x y j : Nat} (hj : j ≤ 16) (h : IsCom x y j) : com x y = j := by
  obtain ⟨h1, h2, h3, h4⟩ := h
  have e : (List.range 17).find? (fun j => decide (lev x ≤ j) && (decide (lev y ≤ j) && (anc x j == anc y j))) = some j := by
    rw [List.find?_range_eq_some]
    refine ⟨by simp [h1, h2, h3], List.mem_range.2 (by omega), ?_⟩
    intro i hi
    by_cases a : lev x ≤ i
    · by_cases b : lev y ≤ i
      · simp [h4 i a b hi]
      · simp [b]
    · simp [a]
  rw [com, e]; rfl
theorem com_symm (x y : Nat) : com x y = com y x := by
  unfold com
  congr 2
  funext j
  rw [Bool.eq_iff_iff]
  simp only [Bool.and_eq_true, decide_eq_true_eq, beq_iff_eq]
  constructor
  · rintro ⟨a, b, c⟩; exact ⟨b, a, c.symm⟩
  · rintro ⟨a, b, c⟩; exact ⟨b, a, c.symm⟩
theorem anc_up {x y i j : Nat} (h : anc x i = anc y i) (hij : i ≤ j) : anc x j = anc y j := by
  rw [← anc_anc (x := x) hij, h, anc_anc hij]
/-- what is beneath an ancestor -/
theorem und_anc {x y d j : Nat} (hd : d ≤ 16) (hx : x + 1 < 2 ^ (d + 1)) (hy : y + 1 < 2 ^ (d + 1)) (hj : j ≤ d) : undZ (y : Int) (anc x j : Nat) = decide (lev y ≤ j ∧ anc x j = anc y j) := by
  have h17 := two_pow_le (show d + 1 ≤ 17 by omega)
  have hle := anc_le (show x < 2 ^ (d + 1) by omega) hj
  have hal := anc_lev x j
  have hyl := lev_is (x := y) (by omega)
  rw [und_nat (by omega) (by omega), lev_eq (by omega) hal]
  have e1 : plo (anc x j) j = plo x j := by unfold plo; rw [anc_div (Nat.le_refl j)]
  have e2 : phi (anc x j) j = phi x j := by unfold phi; rw [e1]
  rw [e1, e2]
  apply decide_eq_decide.2
  have hp := pow_pos' (j + 1)
  have hb := anc_bounds y j
  have hm := Nat.div_add_mod y (2 ^ (j + 1))
  have hm2 := Nat.mod_lt y hp
  constructor
  · rintro ⟨a, b⟩
    have hq : y / 2 ^ (j + 1) = x / 2 ^ (j + 1) := by
      unfold phi plo at b
      unfold plo at a
      refine (Nat.div_eq_of_lt_le ?_ ?_)
      · exact a
      · rw [Nat.add_mul, Nat.one_mul]
        have := pow_pos' j
        have e4 : 2 ^ (j + 1) = 2 * 2 ^ j := by rw [Nat.pow_succ]; omega
        omega
    refine ⟨?_, by unfold anc; rw [hq]⟩
    rcases Nat.lt_or_ge j (lev y) with hlt | hge
    · exfalso
      unfold IsLev at hyl
      have h1 : y % 2 ^ (j + 1) = 2 ^ (j + 1) - 1 := by
        have h2 : y % 2 ^ (lev y + 1) % 2 ^ (j + 1) = y % 2 ^ (j + 1) := Nat.mod_mod_of_dvd _ (Nat.pow_dvd_pow 2 (by omega))
        rw [hyl, ones_mod (by omega)] at h2
        exact h2.symm
      unfold phi plo at b
      rw [← hq, Nat.mul_comm] at b
      have := pow_pos' j
      have e4 : 2 ^ (j + 1) = 2 * 2 ^ j := by rw [Nat.pow_succ]; omega
      omega
    · exact hge
  · rintro ⟨a, b⟩
    have hq : x / 2 ^ (j + 1) = y / 2 ^ (j + 1) := by
      rw [← anc_div (x := x) (Nat.le_refl j), b, anc_div (Nat.le_refl j)]
    unfold phi plo
    rw [hq]
    refine ⟨hb.1, ?_⟩
    have e4 : 2 ^ (j + 1) = 2 * 2 ^ j := by rw [Nat.pow_succ]; omega
    have hpj := pow_pos' j
    have hne : y % 2 ^ (j + 1) ≠ 2 ^ (j + 1) - 1 := by
      intro h
      unfold IsLev at hyl
      have h2 : y % 2 ^ (j + 1) % 2 ^ (lev y + 1) = y % 2 ^ (lev y + 1) := Nat.mod_mod_of_dvd _ (Nat.pow_dvd_pow 2 (by omega))
      rw [h, ones_mod (by omega), hyl, Nat.pow_succ] at h2
      have := pow_pos' (lev y)
      omega
    rw [Nat.mul_comm] at hm
    omega
theorem com_ex {x y d : Nat} (hd : d ≤ 16) (hx : x + 1 < 2 ^ (d + 1)) (hy : y + 1 < 2 ^ (d + 1)) : IsCom x y (com x y) ∧ com x y ≤ d := by
  have h17 := two_pow_le (show d + 1 ≤ 17 by omega)
  have hlx := (lev_root hx (lev_is (by omega))).1
  have hly := (lev_root hy (lev_is (by omega))).1
  have hr : anc x d = anc y d := by rw [anc_root (by omega), anc_root (by omega)]
  -- the least one
  have key : ∀ k, (∃ j, j ≤ d ∧ IsCom x y j) ∨ ∀ i, i < k → ¬ (lev x ≤ i ∧ lev y ≤ i ∧ anc x i = anc y i ∧ i ≤ d) := by
    intro k
    induction k with
    | zero => right; intro i hi; omega
    | succ k ih =>
      rcases ih with h | h
      · exact .inl h
      · by_cases hk : lev x ≤ k ∧ lev y ≤ k ∧ anc x k = anc y k ∧ k ≤ d
        · left
          refine ⟨k, hk.2.2.2, hk.1, hk.2.1, hk.2.2.1, ?_⟩
          intro i h1 h2 hik h3
          exact h i hik ⟨h1, h2, h3, by omega⟩
        · right
          intro i hi
          by_cases e : i = k
          · subst e; exact hk
          · exact h i (by omega)
  rcases key (d + 1) with ⟨j, hj, h⟩ | h
  · rw [com_of (by omega) h]; exact ⟨h, hj⟩
  · exact absurd ⟨hlx, hly, hr, Nat.le_refl _⟩ (h d (by omega))
def comZ (x y n : Int) : Int := if (isOf x n && isOf y n) = true then (anc x.toNat (com x.toNat y.toNat) : Nat) else -1
theorem comZ_symm (x y n : Int) : comZ x y n = comZ y x n := by
  unfold comZ
  by_cases h : (isOf x n && isOf y n) = true
  · rw [if_pos h]
    rw [Bool.and_comm] at h
    rw [if_pos h]
    rw [Bool.and_eq_true] at h
    obtain ⟨m, d, rfl, rfl, hd, hm⟩ := isOf_out h.1
    have h2 := isOf_bd h.2
    obtain ⟨q, rfl⟩ : ∃ q : Nat, x = (q : Int) := ⟨x.toNat, by omega⟩
    have h3 := h.2
    rw [isOf_nat hd, decide_eq_true_eq] at h3
    rw [Int.toNat_natCast, Int.toNat_natCast]
    have hc := com_ex hd h3 hm
    rw [hc.1.2.2.1, com_symm]
  · rw [if_neg h]
    rw [Bool.and_comm] at h
    rw [if_neg h]
end Go.Proofs.YtngealmhgkoaiaaGreat
/- Walks: the reference's Path, Copath; walk.Copath. -/
namespace Go.Proofs.YtngealmhgkoaiaaGreat
open Go.RowKit WalkM
set_option maxRecDepth 100000 in
set_option maxHeartbeats 1000000 in
theorem rpath_any (x n : Int) (w : World) (h1 : -9223372036854775808 ≤ n) (h2 : n ≤ 9223372036854775807) :
    Calls Tryz.prog 60 #[.int .i64 x, .int .i64 n] w fun e w' => ∃ v, e = .returned v ∧ Own w' w.heap.size 3 v (nvs (pathL x n)) ∧ Below w.heap.size w w' := by
  by_cases ho : isOf x n = true
  · obtain ⟨m, d, rfl, rfl, hd, hm⟩ := isOf_out ho
    have D := fun w => down_on m d hd hm w
    have h17 := two_pow_le (show d + 1 ≤ 17 by omega)
    have hl := (lev_root hm (lev_is (x := m) (by omega))).1
    rw [pathL_of hd hm]
    have g0 := dnodes_at m d (d - lev m + 1)
    obtain ⟨l, hl'⟩ : ∃ l, l = lev m := ⟨_, rfl⟩
    rw [← hl'] at D hl g0 ⊢
    obtain ⟨k, hk⟩ : ∃ k, k = d - l := ⟨_, rfl⟩
    rw [← hk] at D g0 ⊢
    have hk16 : k ≤ 16 := by omega
    have hkd : d = l + k := by omega
    have HKD := Lib.hid hkd
    have HD := Lib.hid D
    have HG := Lib.hid g0
    clear D g0 hk hl hl' ho hm h17 h1 h2 hkd
    go_enter Tryz.func60, Tryz.ntmps60
    go_wp2_with fail
    refine (HD.out _).mono ?_
    rintro e w1 ⟨v, rfl, hown, hb⟩
    obtain ⟨g, cap, rfl, hg, hgl, hn, hmx, hc, -⟩ := hown.out (by omega)
    have HC := Lib.hid hc
    have HB := Lib.hid hb
    clear hc hown hb
    go_wp2_with fail
    go_loopg [6, 7] k (fun q out i wr => ∃ r : Nat, r + q = k ∧ i = .int .i64 ((k : Int) - 1 - r) ∧ Own wr w1.heap.size 3 out (nvs (ups m l r)) ∧ Below w1.heap.size w1 wr)
    case atStart =>
      refine ⟨0, by omega, val_int ?_, Own.nil _ _ _, Below.refl _ _⟩
      omega
    case round =>
      obtain ⟨r, hr, rfl, hown, hb1⟩ := hrel
      have HO := Lib.hid hown
      have HB1 := Lib.hid hb1
      have hsz := hb1.size
      clear hown hb1
      by_cases hrk : r < k
      · obtain ⟨j, hj⟩ : ∃ j, k = r + 1 + j := ⟨k - r - 1, by omega⟩
        have ej : (k : Int) - 1 - r = (j : Int) := by omega
        rw [ej]
        have c0 := HC.out _ _ (HG.out j (by omega))
        rw [← HB1.out.cell (p := ⟨g, j * 3, none⟩) hgl] at c0
        rw [show d - j = l + r + 1 by have := HKD.out; omega] at c0
        obtain ⟨a, ha⟩ : ∃ a, a = anc m (l + r + 1) := ⟨_, rfl⟩
        rw [← ha] at c0
        have HA := Lib.hid ha
        have hjk : j < k + 1 := by omega
        have EJ := Lib.hid ej
        have HJ := Lib.hid hj
        clear ha ej hj
        go_wp2_with (at_builtin; refine wpList_push rfl (.tmp 18) (.tmp 24) 50 rfl w1.heap.size 3 _ 8 intsE _ _ rfl (HO.out.alloc _) ⟨wr.heap.size, 0, none⟩ (.int .i64 (a : Int)) rfl ?c1 rfl ?c2 ?c3 ?_)
        case c1 => exact cell_new rfl
        case c2 => rw [nvs_len, ups_len]; omega
        case c3 => simp; omega
        rintro v' w2 hown1 - hb2
        have HO1 := Lib.hid hown1
        have HB2 := Lib.hid hb2
        clear hown1 hb2
        go_wp2_with fail
        go_roundg (gk - 1)
        case measure => omega
        case rel =>
          refine ⟨r + 1, by omega, val_int ?_, ?_, ?_⟩
          · have := HJ.out; omega
          · rw [ups_snoc, nvs_snoc, ← HA.out]
            exact HO1.out
          · exact (HB1.out.alloc hsz _).trans HB2.out
      · obtain rfl : r = k := by omega
        go_wp2_with fail
        go_ret
        exact ⟨_, rfl, HO.out.mono HB.out.size, HB.out.trans (HB1.out.mono HB.out.size)⟩
  · have hf : isOf x n = false := by rw [← Bool.not_eq_true]; exact ho
    rw [pathL_off hf]
    have HD := Lib.hid (fun w => down_off x n w h1 h2 hf)
    clear hf ho h1 h2
    go_enter Tryz.func60, Tryz.ntmps60
    go_wp2_with fail
    refine (HD.out _).mono ?_
    rintro e w1 ⟨rfl, rfl⟩
    go_wp2_with fail
    go_loopg [6, 7] 0 (fun q out i wr => i = .int .i64 (-2) ∧ out = .slice none 0 0 ∧ wr = w)
    case atStart => exact ⟨rfl, rfl, rfl⟩
    case round =>
      obtain ⟨rfl, rfl, rfl⟩ := hrel
      go_wp2_with fail
      go_ret
      exact ⟨_, rfl, Own.nil _ _ _, Below.refl _ _⟩
end Go.Proofs.YtngealmhgkoaiaaGreat
/- Walks: the reference's Copath, walk.Copath. -/
namespace Go.Proofs.YtngealmhgkoaiaaGreat
open Go.RowKit WalkM
/-- siblings of r ancestors, from the level l on -/
def cops (x : Nat) (n : Int) (l r : Nat) : List Int := (List.range r).map fun j => sibZ (anc x (l + j) : Nat) n
theorem cops_len (x : Nat) (n : Int) (l r : Nat) : (cops x n l r).length = r := by simp [cops]
theorem cops_snoc (x : Nat) (n : Int) (l r : Nat) : cops x n l (r + 1) = cops x n l r ++ [sibZ (anc x (l + r) : Nat) n] := by
  unfold cops
  rw [List.range_succ, List.map_append]
  rfl
theorem ivs_snoc (k : IntKind) (L : List Int) (x : Int) : ivs k (L ++ [x]) = ivs k L ++ [.int k x] := by simp [ivs]
theorem ivs_len (k : IntKind) (L : List Int) : (ivs k L).length = L.length := by simp [ivs]
/-- the copath, for any x and n -/
def copL (x n : Int) : List Int := if isOf x n = true then cops x.toNat n (lev x.toNat) (Nat.log2 n.toNat - lev x.toNat) else []
theorem copL_of {x d : Nat} (hd : d ≤ 16) (hx : x + 1 < 2 ^ (d + 1)) : copL (x : Int) ((2 ^ d : Nat) : Int) = cops x ((2 ^ d : Nat) : Int) (lev x) (d - lev x) := by
  rw [copL, if_pos (by rw [isOf_nat hd, decide_eq_true hx]), Int.toNat_natCast, Int.toNat_natCast, Nat.log2_two_pow]
theorem copL_off {x n : Int} (h : isOf x n = false) : copL x n = [] := by rw [copL, if_neg (by rw [h]; simp)]
set_option maxRecDepth 100000 in
set_option maxHeartbeats 1000000 in
theorem rcopath_any (x n : Int) (w : World) (h1 : -9223372036854775808 ≤ n) (h2 : n ≤ 9223372036854775807) :
    Calls Tryz.prog 61 #[.int .i64 x, .int .i64 n] w fun e w' => ∃ v, e = .returned v ∧ Own w' w.heap.size 3 v (ivs .i64 (copL x n)) ∧ Below w.heap.size w w' := by
  by_cases ho : isOf x n = true
  · obtain ⟨m, d, rfl, rfl, hd, hm⟩ := isOf_out ho
    have D := fun w => down_on m d hd hm w
    have h17 := two_pow_le (show d + 1 ≤ 17 by omega)
    have hl := (lev_root hm (lev_is (x := m) (by omega))).1
    rw [copL_of hd hm]
    have g0 := dnodes_at m d (d - lev m + 1)
    have S := fun (y : Int) w => rsib_any y ((2 ^ d : Nat) : Int) w h1 h2
    obtain ⟨n, hn⟩ : ∃ n, n = 2 ^ d := ⟨_, rfl⟩
    rw [← hn] at S D ⊢
    obtain ⟨l, hl'⟩ : ∃ l, l = lev m := ⟨_, rfl⟩
    rw [← hl'] at D hl g0 ⊢
    obtain ⟨k, hk⟩ : ∃ k, k = d - l := ⟨_, rfl⟩
    rw [← hk] at D g0 ⊢
    have hk16 : k ≤ 16 := by omega
    have hkd : d = l + k := by omega
    have HKD := Lib.hid hkd
    have HD := Lib.hid D
    have HG := Lib.hid g0
    have HS := Lib.hid S
    clear D g0 hk hl hl' ho hm h17 h1 h2 hkd S hn
    go_enter Tryz.func61, Tryz.ntmps61
    go_wp2_with fail
    refine (HD.out _).mono ?_
    rintro e w1 ⟨v, rfl, hown, hb⟩
    obtain ⟨g, cap, rfl, hg, hgl, hn, hmx, hc, -⟩ := hown.out (by omega)
    have HC := Lib.hid hc
    have HB := Lib.hid hb
    clear hc hown hb
    go_wp2_with fail
    go_loopg [6, 7] k (fun q out i wr => ∃ r : Nat, r + q = k ∧ i = .int .i64 ((k : Int) - r) ∧ Own wr w1.heap.size 3 out (ivs .i64 (cops m n l r)) ∧ Below w1.heap.size w1 wr)
    case atStart =>
      refine ⟨0, by omega, val_int ?_, Own.nil _ _ _, Below.refl _ _⟩
      omega
    case round =>
      obtain ⟨r, hr, rfl, hown, hb1⟩ := hrel
      have HO := Lib.hid hown
      have HB1 := Lib.hid hb1
      have hsz := hb1.size
      clear hown hb1
      by_cases hrk : r < k
      · obtain ⟨j, hj⟩ : ∃ j, k = r + 1 + j := ⟨k - r - 1, by omega⟩
        have ej : (k : Int) - r = (j : Int) + 1 := by omega
        rw [ej]
        have c0 := HC.out _ _ (HG.out (j + 1) (by omega))
        rw [← HB1.out.cell (p := ⟨g, (j + 1) * 3, none⟩) hgl] at c0
        rw [show d - (j + 1) = l + r by have := HKD.out; omega] at c0
        have hS := HS.out (anc m (l + r) : Nat)
        obtain ⟨a, ha⟩ : ∃ a, a = anc m (l + r) := ⟨_, rfl⟩
        rw [← ha] at c0 hS
        obtain ⟨s, hs⟩ : ∃ s, s = sibZ (a : Int) n := ⟨_, rfl⟩
        rw [← hs] at hS
        have hjk : j + 1 < k + 1 := by omega
        have HS1 := Lib.hid hS
        have HA := Lib.hid ha
        have HSS := Lib.hid hs
        have EJ := Lib.hid ej
        have HJ := Lib.hid hj
        clear ha ej hj hS hs
        go_wp2_with fail
        refine (HS1.out _).mono ?_
        rintro e w2 ⟨rfl, hb2⟩
        have HB2 := Lib.hid (HB1.out.trans (hb2.mono hsz))
        have HO2 := Lib.hid (HO.out.below hb2 (Nat.le_refl _))
        have hsz2 := HB2.out.size
        clear hb2
        go_wp2_with (at_builtin; refine wpList_push rfl (.tmp 18) (.tmp 26) 50 rfl w1.heap.size 3 _ 8 intsE _ _ rfl (HO2.out.alloc _) ⟨w2.heap.size, 0, none⟩ (.int .i64 s) rfl ?c1 rfl ?c2 ?c3 ?_)
        case c1 => exact cell_new rfl
        case c2 => rw [ivs_len, cops_len]; omega
        case c3 => simp; omega
        rintro v' w3 hown1 - hb3
        have HO3 := Lib.hid hown1
        have HB3 := Lib.hid hb3
        clear hown1 hb3
        go_wp2_with fail
        go_roundg (gk - 1)
        case measure => omega
        case rel =>
          refine ⟨r + 1, by omega, val_int ?_, ?_, ?_⟩
          · have := HJ.out; omega
          · rw [cops_snoc, ivs_snoc, ← HA.out, ← HSS.out]
            exact HO3.out
          · exact (HB2.out.alloc hsz2 _).trans HB3.out
      · obtain rfl : r = k := by omega
        go_wp2_with fail
        go_ret
        exact ⟨_, rfl, HO.out.mono HB.out.size, HB.out.trans (HB1.out.mono HB.out.size)⟩
  · have hf : isOf x n = false := by rw [← Bool.not_eq_true]; exact ho
    rw [copL_off hf]
    have HD := Lib.hid (fun w => down_off x n w h1 h2 hf)
    clear hf ho h1 h2
    go_enter Tryz.func61, Tryz.ntmps61
    go_wp2_with fail
    refine (HD.out _).mono ?_
    rintro e w1 ⟨rfl, rfl⟩
    go_wp2_with fail
    go_loopg [6, 7] 0 (fun q out i wr => i = .int .i64 (-1) ∧ out = .slice none 0 0 ∧ wr = w)
    case atStart => exact ⟨rfl, rfl, rfl⟩
    case round =>
      obtain ⟨rfl, rfl, rfl⟩ := hrel
      go_wp2_with fail
      go_ret
      exact ⟨_, rfl, Own.nil _ _ _, Below.refl _ _⟩
set_option maxRecDepth 100000 in
set_option maxHeartbeats 1000000 in
theorem copath_any (x n : Int) (w : World) (h1 : -9223372036854775808 ≤ n) (h2 : n ≤ 9223372036854775807) :
    Calls Tryz.prog 128 #[.int .i64 x, .int .i64 n] w fun e w' => ∃ v, e = .returned v ∧ Own w' w.heap.size 3 v (ivs .i64 (copL x n)) ∧ Below w.heap.size w w' := by
  by_cases ho : isOf x n = true
  · obtain ⟨m, d, rfl, rfl, hd, hm⟩ := isOf_out ho
    have D := fun w => path_any m d hd hm w
    have h17 := two_pow_le (show d + 1 ≤ 17 by omega)
    have hlv := lev_is (x := m) (by omega)
    have hl := (lev_root hm hlv).1
    have hself := anc_self hlv
    rw [copL_of hd hm]
    have S := fun (y : Int) w => sibling_any y ((2 ^ d : Nat) : Int) w h1 h2
    obtain ⟨n, hn⟩ : ∃ n, n = 2 ^ d := ⟨_, rfl⟩
    rw [← hn] at S D ⊢
    obtain ⟨l, hl'⟩ : ∃ l, l = lev m := ⟨_, rfl⟩
    rw [← hl'] at D hl hself ⊢
    obtain ⟨k, hk⟩ : ∃ k, k = d - l := ⟨_, rfl⟩
    rw [← hk] at D ⊢
    have hk16 : k ≤ 16 := by omega
    have HD := Lib.hid D
    have HS := Lib.hid S
    have HSELF := Lib.hid hself
    clear D hk hl hl' ho hm h17 h1 h2 S hn hlv hself
    go_enter Tryz.func128, Tryz.ntmps128
    go_wp2_with fail
    refine (HD.out _).mono ?_
    rintro e w1 ⟨v, rfl, hown, hb⟩
    have HB := Lib.hid hb
    obtain ⟨a, cap, rfl, hcap1, hcap2, hrd⟩ := hown.rd
    have hlt := hown.rd.lt
    rw [nvs_len, ups_len] at hcap1 hlt ⊢
    have HRD := Lib.hid hrd
    have HLT := Lib.hid hlt
    clear hown hb hrd hlt
    go_wp2_with fail
    go_loopg [0, 5, 12] k (fun q y out i wr => ∃ r : Nat, r + q = k ∧ i = .int .i64 (r : Int) ∧ y = .int .i64 (anc m (l + r) : Nat) ∧ Own wr w1.heap.size 3 out (ivs .i64 (cops m n l r)) ∧ Below w1.heap.size w1 wr)
    case atStart =>
      refine ⟨0, by omega, rfl, val_int ?_, Own.nil _ _ _, Below.refl _ _⟩
      rw [Nat.add_zero, HSELF.out]
    case round =>
      obtain ⟨r, hr, rfl, rfl, hown, hb1⟩ := hrel
      have HO := Lib.hid hown
      have HB1 := Lib.hid hb1
      have hsz := hb1.size
      clear hown hb1
      by_cases hrk : r < k
      · obtain ⟨b, off, rfl, hbl, c0⟩ : ∃ b off, a = some ⟨b, off, none⟩ ∧ b < w1.heap.size ∧ w1.cell? ⟨b, off + r, none⟩ = some (.int .i64 (anc m (l + r + 1) : Nat)) := by
          have e1 : ∀ j k, r + j + 1 = k → (nvs (ups m l k))[r]? = some (.int .i64 (anc m (l + r + 1) : Nat)) := by
            intro j
            induction j with
            | zero =>
              intro k hk
              rw [← hk, Nat.add_zero, ups_snoc, nvs_snoc, List.getElem?_append_right (by rw [nvs_len, ups_len]; omega), nvs_len, ups_len, Nat.sub_self]
              rfl
            | succ j ih =>
              intro k hk
              rw [← hk, ups_snoc, nvs_snoc, List.getElem?_append_left (by rw [nvs_len, ups_len]; omega)]
              exact ih _ (by omega)
          have e2 := e1 (k - r - 1) k (by omega)
          rcases HRD.out with ⟨h0, _⟩ | ⟨b, off, rfl, hc⟩
          · rw [h0] at e2; simp at e2
          · rcases HLT.out with h0 | ⟨b', off', cap', he, hb'⟩
            · rw [h0] at e2; simp at e2
            · simp only [Value.slice.injEq, Option.some.injEq, Addr.mk.injEq] at he
              exact ⟨b, off, rfl, by omega, hc r _ e2⟩
        rw [← HB1.out.cell (p := ⟨b, off + r, none⟩) hbl] at c0
        have hS := HS.out (anc m (l + r) : Nat)
        obtain ⟨a, ha⟩ : ∃ a, a = anc m (l + r) := ⟨_, rfl⟩
        rw [← ha] at hS ⊢
        obtain ⟨s, hs⟩ : ∃ s, s = sibZ (a : Int) n := ⟨_, rfl⟩
        rw [← hs] at hS
        obtain ⟨u, hu⟩ : ∃ a, a = anc m (l + r + 1) := ⟨_, rfl⟩
        rw [← hu] at c0
        have HS1 := Lib.hid hS
        have HA := Lib.hid ha
        have HU := Lib.hid hu
        have HSS := Lib.hid hs
        clear ha hS hs hu
        go_wp2_with fail
        refine (HS1.out _).mono ?_
        rintro e w2 ⟨rfl, q2, rfl⟩
        go_wp2_with (at_builtin; refine wpList_push rfl (.tmp 16) (.tmp 20) 50 rfl w1.heap.size 3 _ 8 intsE _ _ rfl ((HO.out.drewN _).alloc _) ⟨wr.heap.size, 0, none⟩ (.int .i64 s) rfl ?c1 rfl ?c2 ?c3 ?_)
        case c1 => exact cell_new rfl
        case c2 => rw [ivs_len, cops_len]; omega
        case c3 => simp; omega
        rintro v' w3 hown1 - hb3
        have HO3 := Lib.hid hown1
        have HB3 := Lib.hid hb3
        clear hown1 hb3
        go_wp2_with fail
        go_roundg (gk - 1)
        case measure => omega
        case rel =>
          refine ⟨r + 1, by omega, by go_num, val_int ?_, ?_, ?_⟩
          · rw [HU.out]; rfl
          · rw [cops_snoc, ivs_snoc, ← HA.out, ← HSS.out]
            exact HO3.out
          · exact ((below_drewN' HB1.out _).alloc hsz _).trans HB3.out
      · obtain rfl : r = k := by omega
        go_wp2_with fail
        go_ret
        exact ⟨_, rfl, HO.out.mono HB.out.size, HB.out.trans (HB1.out.mono HB.out.size)⟩
  · have hf : isOf x n = false := by rw [← Bool.not_eq_true]; exact ho
    rw [copL_off hf]
    have HD := Lib.hid (fun w => path_off x n w h1 h2 hf)
    clear hf ho h1 h2
    go_enter Tryz.func128, Tryz.ntmps128
    go_wp2_with fail
    refine (HD.out _).mono ?_
    rintro e w1 ⟨rfl, k, rfl⟩
    go_wp2_with fail
    go_loopg [0, 5, 12] 0 (fun q y out i wr => i = .int .i64 0 ∧ out = .slice none 0 0 ∧ wr = w.drewN k)
    case atStart => exact ⟨rfl, rfl, rfl⟩
    case round =>
      obtain ⟨rfl, rfl, rfl⟩ := hrel
      go_wp2_with fail
      go_ret
      exact ⟨_, rfl, Own.nil _ _ _, below_drewN' (Below.refl _ _) _⟩
end Go.Proofs.YtngealmhgkoaiaaGreat
