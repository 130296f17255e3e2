/- Walks: the reference's Parent, Sibling. -/
import Derived.Test.YtbjfacfphgnhpaaWalkRKids
namespace Go.Proofs.Ytbjfacfphgnhpaa
open Go.RowKit WalkM
theorem dnodes_at (x d k i : Nat) (h : i < k) : (dnodes x d k)[i * 3]? = some (.int .i64 (anc x (d - i) : Nat)) := by
  have h := dnodes_get x d k i 0 h (by omega)
  rw [Nat.add_zero] at h
  exact h
set_option maxRecDepth 100000 in
set_option maxHeartbeats 1000000 in
theorem rparent_any (x n : Int) (w : World) (h1 : -9223372036854775808 ≤ n) (h2 : n ≤ 9223372036854775807) :
    Calls Try.prog 25 #[.int .i64 x, .int .i64 n] w fun e w' => e = .returned (.int .i64 (parZ x n)) ∧ Below w.heap.size w w' := by
  by_cases ho : isOf x n = true
  · obtain ⟨m, d, rfl, rfl, hd, hm⟩ := isOf_out ho
    have D := fun w => down_on m d hd hm w
    have h17 := two_pow_le (show d + 1 ≤ 17 by omega)
    have hl := (lev_root hm (lev_is (x := m) (by omega))).1
    rw [parZ_nat hd hm, nxt]
    have g0 := dnodes_at m d (d - lev m + 1) (d - lev m - 1)
    obtain ⟨l, hl'⟩ : ∃ l, l = lev m := ⟨_, rfl⟩
    rw [← hl'] at D hl g0 ⊢
    clear h17 hm h1 h2 ho hl'
    by_cases hlt : l < d
    · rw [if_pos hlt]
      have g := g0 (by omega)
      rw [show d - (d - l - 1) = l + 1 by omega] at g
      obtain ⟨k, hk⟩ : ∃ k, d - l = k + 1 := ⟨d - l - 1, by omega⟩
      rw [hk] at D g
      rw [show k + 1 - 1 = k by omega] at g
      have hk16 : k ≤ 16 := by omega
      obtain ⟨a, ha⟩ : ∃ a, a = anc m (l + 1) := ⟨_, rfl⟩
      rw [← ha] at g ⊢
      have G := Lib.hid g
      have HD := Lib.hid D
      clear D g g0 hlt hk ha hl
      go_enter Try.func25, Try.ntmps25
      go_wp2_with fail
      refine (HD.out _).mono ?_
      rintro e w1 ⟨v, rfl, hown, hb⟩
      obtain ⟨g, cap, rfl, hg, hgl, hn, hmx, hc, -⟩ := hown.out (by omega)
      have c0 := hc _ _ G.out
      have HB := Lib.hid hb
      clear hc hown hb
      go_wp2_with fail
      go_ret
      exact ⟨rfl, HB.out⟩
    · rw [if_neg hlt]
      obtain rfl : l = d := by omega
      have HD := Lib.hid D
      rw [show l - l = 0 by omega] at HD
      clear D g0 hlt
      go_enter Try.func25, Try.ntmps25
      go_wp2_with fail
      refine (HD.out _).mono ?_
      rintro e w1 ⟨v, rfl, hown, hb⟩
      obtain ⟨g, cap, rfl, hg, hgl, hn, hmx, hc, -⟩ := hown.out (by omega)
      have HB := Lib.hid hb
      clear hc hown hb
      go_wp2_with fail
      go_ret
      exact ⟨rfl, HB.out⟩
  · have hf : isOf x n = false := by rw [← Bool.not_eq_true]; exact ho
    have e : parZ x n = -1 := by rw [parZ, if_neg (by rw [hf]; simp)]
    rw [e]
    have HD := Lib.hid (fun w => down_off x n w h1 h2 hf)
    clear hf ho e h1 h2
    go_enter Try.func25, Try.ntmps25
    go_wp2_with fail
    refine (HD.out _).mono ?_
    rintro e w1 ⟨rfl, rfl⟩
    go_wp2_with fail
    go_ret
    exact ⟨rfl, Below.refl _ _⟩
/-- of a node's parent one child is the node itself -/
theorem kids_par {x n : Int} (h : 0 ≤ parZ x n) : (x < parZ x n → leftZ (parZ x n) = x) ∧ (¬ x < parZ x n → leftZ (parZ x n) ≠ x ∧ rightZ (parZ x n) = x) := by
  obtain ⟨ho, hr⟩ := (parZ_bd x n).2 h
  obtain ⟨m, d, rfl, rfl, hd, hm⟩ := isOf_out ho
  have h17 := two_pow_le (show d + 1 ≤ 17 by omega)
  have hlv := lev_is (x := m) (by omega)
  have hl := lev_root hm hlv
  have hs := anc_self hlv
  rw [parZ_nat hd hm, nxt]
  have hlt : lev m < d := by
    rcases Nat.lt_or_ge (lev m) d with h | h
    · exact h
    · exfalso
      apply hr
      have := hl.2.1 (by omega)
      have hp := pow_pos' d
      omega
  rw [if_pos hlt]
  have hh := halves m (lev m)
  have hal := anc_lev m (lev m + 1)
  have hle := anc_le (x := m) (d := d) (j := lev m + 1) (by omega) (by omega)
  rw [anc_plo] at hs
  obtain ⟨a, ha⟩ : ∃ a, a = anc m (lev m + 1) := ⟨_, rfl⟩
  rw [← ha] at hh hal hle ⊢
  have hla := lev_eq (by omega) hal
  have hz := levZ_nat (x := a) (by omega)
  have hp := pow_pos' (lev m)
  have e : halfZ (a : Int) = ((2 ^ lev m : Nat) : Int) := by
    rw [halfZ, hz, hla, if_pos (by omega)]
    simp
  unfold leftZ rightZ
  rw [e, if_neg (by omega), if_neg (by omega)]
  have he : phi m (lev m) = plo m (lev m) + (2 ^ (lev m + 1) - 2) := rfl
  rw [Nat.pow_succ] at he
  refine ⟨fun h => ?_, fun h => ⟨?_, ?_⟩⟩
  all_goals
    rcases hh with ⟨k1, k2, k3⟩ | ⟨k1, k2, k3⟩ <;> omega
set_option maxRecDepth 100000 in
set_option maxHeartbeats 1000000 in
theorem rsib_any (x n : Int) (w : World) (h1 : -9223372036854775808 ≤ n) (h2 : n ≤ 9223372036854775807) :
    Calls Try.prog 27 #[.int .i64 x, .int .i64 n] w fun e w' => e = .returned (.int .i64 (sibZ x n)) ∧ Below w.heap.size w w' := by
  have P := fun w => rparent_any x n w h1 h2
  have hk := @kids_par x n
  unfold sibZ
  obtain ⟨p, hp⟩ : ∃ p, p = parZ x n := ⟨_, rfl⟩
  rw [← hp] at P hk ⊢
  have K := fun w => kids_any p w
  have HP := Lib.hid P
  have HK := Lib.hid K
  clear P K hp h1 h2
  by_cases hn : p < 0
  · rw [if_pos hn]
    clear hk
    go_enter Try.func27, Try.ntmps27
    go_wp2_with fail
    refine (HP.out _).mono ?_
    rintro e w1 ⟨rfl, hb⟩
    have HB := Lib.hid hb
    clear hb
    go_wp2_with fail
    go_ret
    exact ⟨rfl, HB.out⟩
  · rw [if_neg hn]
    have hk := hk (by omega)
    obtain ⟨l, hl⟩ : ∃ l, l = leftZ p := ⟨_, rfl⟩
    obtain ⟨r, hr⟩ : ∃ r, r = rightZ p := ⟨_, rfl⟩
    rw [← hl, ← hr] at HK hk ⊢
    by_cases hx : x < p
    · rw [if_pos hx]
      obtain rfl := hk.1 hx
      clear hk hl hr hx
      go_enter Try.func27, Try.ntmps27
      go_wp2_with fail
      refine (HP.out _).mono ?_
      rintro e w1 ⟨rfl, hb⟩
      have HB := Lib.hid hb
      clear hb
      go_wp2_with fail
      refine (HK.out _).mono ?_
      rintro e w2 ⟨rfl, hb⟩
      have HB2 := Lib.hid hb
      clear hb
      go_wp2_with fail
      go_ret
      exact ⟨rfl, HB.out.trans (HB2.out.mono HB.out.size)⟩
    · rw [if_neg hx]
      have hc : (l == x) = false := by rw [beq_eq_false_iff_ne]; exact (hk.2 hx).1
      clear hk hl hr hx
      go_enter Try.func27, Try.ntmps27
      go_wp2_with fail
      refine (HP.out _).mono ?_
      rintro e w1 ⟨rfl, hb⟩
      have HB := Lib.hid hb
      clear hb
      go_wp2_with fail
      refine (HK.out _).mono ?_
      rintro e w2 ⟨rfl, hb⟩
      have HB2 := Lib.hid hb
      clear hb
      go_wp2_with fail
      go_ret
      exact ⟨rfl, HB.out.trans (HB2.out.mono HB.out.size)⟩
end Go.Proofs.Ytbjfacfphgnhpaa
