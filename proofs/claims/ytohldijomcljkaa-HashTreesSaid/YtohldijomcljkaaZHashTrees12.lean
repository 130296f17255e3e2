/- A scope whose label is jumped back to: what holds at every arrival is shown once. -/
import Derived.WalkKit
import Derived.WalkMore
import Derived.ScopeJumps
import Derived.Test.YtohldijomcljkaaProg
import Derived.Test.YtohldijomcljkaaZHashTrees10
import Derived.Test.YtohldijomcljkaaZHashTrees11
import Derived.Test.YtohldijomcljkaaZHashTrees00
import Derived.WalkSpells
import Derived.WalkLawsBesides
import Derived.Lib.Hide
import Derived.Deep.QuietTactic
import Derived.Deep.LoopGhost
namespace Go.Proofs.Ytohldijomcljkaa
open Go.RowKit

theorem wp_scope_label {P : Program} {a : Act} {w : World} {Q : Exit → Act → World → Prop} {c rest : Code} (l : Nat) (J : Act → World → Prop) (μ : Act → World → Nat) (hf : findLabel c l = some rest)
    (pass : ∀ a w, J a w → rest.wp P (Exit.jump l (fun a' w' => J a' w' ∧ μ a' w' < μ a w) Q) a w)
    (first : (∀ a w, J a w → rest.wp P (Exit.jump l J Q) a w) → c.wp P (Exit.jump l J Q) a w) : (Code.scope c).wp P Q a w := by
  refine wp_scope_jumps l J μ hf (first ?_) pass
  intro a w h
  refine Code.wp_mono ?_ (pass a w h)
  intro e a' w' he
  cases e with
  | goto l' => exact ⟨he.1, he.2.1⟩
  | _ => exact he

theorem wp_scope_label' {P : Program} {a : Act} {w : World} {Q : Exit → Act → World → Prop} {c rest : Code} (l : Nat) (J : Act → World → Prop) (μ : Act → World → Nat) (hf : findLabel c l = some (Code.skip.seq rest))
    (pass : ∀ a w, J a w → rest.wp P (Exit.jump l (fun a' w' => J a' w' ∧ μ a' w' < μ a w) Q) a w)
    (first : (∀ a w, J a w → rest.wp P (Exit.jump l J Q) a w) → c.wp P (Exit.jump l J Q) a w) : (Code.scope c).wp P Q a w := by
  refine wp_scope_jumps l J μ hf (first ?_) (fun a w h => wp_seq (wp_skip (pass a w h)))
  intro a w h
  refine Code.wp_mono ?_ (pass a w h)
  intro e a' w' he
  cases e with
  | goto l' => exact ⟨he.1, he.2.1⟩
  | _ => exact he
end Go.Proofs.Ytohldijomcljkaa
/- Walks: math/bits.OnesCount, walk.Fits, walk.node, walk.Level, walk.half. -/
namespace Go.Proofs.Ytohldijomcljkaa
open Go.RowKit WalkM

theorem and_le_r (n m : Nat) : n &&& m ≤ n := Nat.and_le_left
set_option maxRecDepth 100000 in
set_option maxHeartbeats 1000000 in
theorem ones_any (n : Nat) (hn : n ≤ 65536) (w : World) :
    Calls Try.prog 139 #[.int .u64 n] w fun e w' => e = .returned (.int .i64 (popc n : Nat)) ∧ w = w' := by
  have b1 := and_le_r (n / 2) 6148914691236517205
  have b1' := and_le_r n 6148914691236517205
  have e1 := u64_and_nat (n / 2) 6148914691236517205 (by omega) (by omega)
  have e1' := u64_and_nat n 6148914691236517205 (by omega) (by omega)
  have d1 : pop1 n = ((n / 2) &&& 6148914691236517205) + (n &&& 6148914691236517205) := rfl
  obtain ⟨p1, hp1⟩ : ∃ p, p = (n / 2) &&& 6148914691236517205 := ⟨_, rfl⟩
  obtain ⟨q1, hq1⟩ : ∃ p, p = n &&& 6148914691236517205 := ⟨_, rfl⟩
  rw [← hp1] at b1 e1 d1
  rw [← hq1] at b1' e1' d1
  have b2 := and_le_r ((p1 + q1) / 4) 3689348814741910323
  have b2' := and_le_r (p1 + q1) 3689348814741910323
  have e2 := u64_and_nat ((p1 + q1) / 4) 3689348814741910323 (by omega) (by omega)
  have e2' := u64_and_nat (p1 + q1) 3689348814741910323 (by omega) (by omega)
  have d2 : pop2 (p1 + q1) = (((p1 + q1) / 4) &&& 3689348814741910323) + ((p1 + q1) &&& 3689348814741910323) := rfl
  obtain ⟨p2, hp2⟩ : ∃ p, p = ((p1 + q1) / 4) &&& 3689348814741910323 := ⟨_, rfl⟩
  obtain ⟨q2, hq2⟩ : ∃ p, p = (p1 + q1) &&& 3689348814741910323 := ⟨_, rfl⟩
  rw [← hp2] at b2 e2 d2
  rw [← hq2] at b2' e2' d2
  have b3 := and_le_r ((p2 + q2) / 16 + (p2 + q2)) 1085102592571150095
  have e3 := u64_and_nat ((p2 + q2) / 16 + (p2 + q2)) 1085102592571150095 (by omega) (by omega)
  have d3 : pop3 (p2 + q2) = ((p2 + q2) / 16 + (p2 + q2)) &&& 1085102592571150095 := rfl
  obtain ⟨p3, hp3⟩ : ∃ p, p = ((p2 + q2) / 16 + (p2 + q2)) &&& 1085102592571150095 := ⟨_, rfl⟩
  rw [← hp3] at b3 e3 d3
  have e4 := i64_and_nat (p3 + p3 / 256 + (p3 + p3 / 256) / 65536 + (p3 + p3 / 256 + (p3 + p3 / 256) / 65536) / 4294967296) 127 (by omega) (by omega)
  have d4 : popc n = (p3 + p3 / 256 + (p3 + p3 / 256) / 65536 + (p3 + p3 / 256 + (p3 + p3 / 256) / 65536) / 4294967296) &&& 127 := by
    rw [popc, d1, d2, d3]; rfl
  rw [← d4] at e4
  simp only [Int.natCast_add, Int.natCast_ediv, Int.cast_ofNat_Int] at e1 e1' e2 e2' e3 e4
  have D := Lib.hid d4
  clear d1 d2 d3 d4 hp1 hq1 hp2 hq2 hp3
  go_enter Try.func139, Try.ntmps139
  go_wp2
  go_ret
  exact ⟨rfl, rfl⟩

theorem fits_small {n : Nat} (h : fits n = true) : 1 ≤ n ∧ n ≤ 65536 := by
  obtain ⟨d, hd, rfl⟩ := (fits_iff n).1 h
  have h1 := pow_pos' d
  have h2 : 2 ^ d ≤ 2 ^ 16 := Nat.pow_le_pow_right (by omega) hd
  omega
set_option maxRecDepth 100000 in
set_option maxHeartbeats 1000000 in
theorem fits_any (n : Int) (w : World) (h1 : -9223372036854775808 ≤ n) (h2 : n ≤ 9223372036854775807) :
    Calls Try.prog 109 #[.int .i64 n] w fun e w' => e = .returned (.bool (fits n.toNat)) ∧ w = w' := by
  by_cases hr : 1 ≤ n ∧ n ≤ 65536
  · obtain ⟨m, rfl⟩ : ∃ m : Nat, n = (m : Int) := ⟨n.toNat, by omega⟩
    have hm : m ≤ 65536 := by omega
    have O := ones_any m hm
    have hp := popc_fits m hm
    have e : (((popc m : Nat) : Int) == 1) = fits m := by
      rw [← hp, Bool.eq_iff_iff]; simp only [beq_iff_eq]; omega
    obtain ⟨c, hc⟩ : ∃ c, c = popc m := ⟨_, rfl⟩
    obtain ⟨f, hf⟩ : ∃ f, f = fits m := ⟨_, rfl⟩
    rw [← hc] at O e
    rw [← hf] at e
    rw [Int.toNat_natCast, ← hf]
    have HO := Lib.hid O
    clear O hp hc hf h1 h2
    go_enter Try.func109, Try.ntmps109
    go_wp2_with fail
    refine (HO.out _).mono ?_
    rintro e w' ⟨rfl, rfl⟩
    go_wp2_with fail
    go_ret
    exact ⟨rfl, rfl⟩
  · have hz : fits n.toNat = false := by
      rw [← Bool.not_eq_true]
      intro h
      have := fits_small h
      omega
    rw [hz]
    have hd : n < 1 ∨ (1 ≤ n ∧ 65536 < n) := by omega
    clear hz hr
    rcases hd with h | ⟨h, h'⟩
    all_goals
      go_enter Try.func109, Try.ntmps109
      go_wp2_with fail
      go_ret
      exact ⟨rfl, rfl⟩

def isNode (x : Int) : Bool := decide (0 ≤ x ∧ x ≤ 131070)
set_option maxRecDepth 100000 in
set_option maxHeartbeats 1000000 in
theorem node_any (x : Int) (w : World) :
    Calls Try.prog 146 #[.int .i64 x] w fun e w' => e = .returned (.bool (isNode x)) ∧ w = w' := by
  have hd : x < 0 ∨ (0 ≤ x ∧ 131070 < x) ∨ (0 ≤ x ∧ x ≤ 131070) := by omega
  rcases hd with h | ⟨h, h'⟩ | ⟨h, h'⟩
  · have e : isNode x = false := by rw [isNode, decide_eq_false]; omega
    rw [e]
    clear e
    go_enter Try.func146, Try.ntmps146
    go_wp2_with fail
    go_ret
    exact ⟨rfl, rfl⟩
  · have e : isNode x = false := by rw [isNode, decide_eq_false]; omega
    rw [e]
    clear e
    go_enter Try.func146, Try.ntmps146
    go_wp2_with fail
    go_ret
    exact ⟨ret_bool (decide_eq_false (by omega)), rfl⟩
  · have e : isNode x = true := by rw [isNode, decide_eq_true]; omega
    rw [e]
    clear e
    go_enter Try.func146, Try.ntmps146
    go_wp2_with fail
    go_ret
    exact ⟨rfl, rfl⟩
/-- whether x is a node of the tree of n leaves -/
def isOf (x n : Int) : Bool := fits n.toNat && decide (0 ≤ x ∧ x ≤ 2 * n - 2)
set_option maxRecDepth 100000 in
set_option maxHeartbeats 1000000 in
theorem of_any (x n : Int) (w : World) (h1 : -9223372036854775808 ≤ n) (h2 : n ≤ 9223372036854775807) :
    Calls Try.prog 140 #[.int .i64 x, .int .i64 n] w fun e w' => e = .returned (.bool (isOf x n)) ∧ w = w' := by
  have F := fits_any n
  by_cases hf : fits n.toNat = true
  · have hs := fits_small hf
    have hn1 : 1 ≤ n := by omega
    have hn2 : n ≤ 65536 := by omega
    simp only [isOf, hf, Bool.true_and]
    rw [hf] at F
    have HF := Lib.hid F
    clear F hf hs h1 h2
    have hd : x < 0 ∨ (0 ≤ x ∧ 2 * n - 2 < x) ∨ (0 ≤ x ∧ x ≤ 2 * n - 2) := by omega
    rcases hd with h | ⟨h, h'⟩ | ⟨h, h'⟩
    · have e : decide (0 ≤ x ∧ x ≤ 2 * n - 2) = false := by rw [decide_eq_false]; omega
      rw [e]
      clear e
      go_enter Try.func140, Try.ntmps140
      go_wp2_with fail
      refine (HF.out _ (by omega) (by omega)).mono ?_
      rintro e w' ⟨rfl, rfl⟩
      go_wp2_with fail
      go_ret
      exact ⟨rfl, rfl⟩
    · have e : decide (0 ≤ x ∧ x ≤ 2 * n - 2) = false := by rw [decide_eq_false]; omega
      rw [e]
      clear e
      go_enter Try.func140, Try.ntmps140
      go_wp2_with fail
      refine (HF.out _ (by omega) (by omega)).mono ?_
      rintro e w' ⟨rfl, rfl⟩
      go_wp2_with fail
      go_ret
      exact ⟨ret_bool (decide_eq_false (by omega)), rfl⟩
    · have e : decide (0 ≤ x ∧ x ≤ 2 * n - 2) = true := by rw [decide_eq_true]; omega
      rw [e]
      clear e
      go_enter Try.func140, Try.ntmps140
      go_wp2_with fail
      refine (HF.out _ (by omega) (by omega)).mono ?_
      rintro e w' ⟨rfl, rfl⟩
      go_wp2_with fail
      go_ret
      exact ⟨rfl, rfl⟩
  · have hf' : fits n.toNat = false := by rw [← Bool.not_eq_true]; exact hf
    simp only [isOf, hf', Bool.false_and]
    rw [hf'] at F
    have HF := Lib.hid (F · h1 h2)
    clear F hf hf' h1 h2
    go_enter Try.func140, Try.ntmps140
    go_wp2_with fail
    refine (HF.out _).mono ?_
    rintro e w' ⟨rfl, rfl⟩
    go_wp2_with fail
    go_ret
    exact ⟨rfl, rfl⟩
end Go.Proofs.Ytohldijomcljkaa
/- Walks: walk.Level, walk.half, walk.Left, walk.Right, walk.Root, walk.Span. -/
namespace Go.Proofs.Ytohldijomcljkaa
open Go.RowKit WalkM

def levZ (x : Int) : Int := if isNode x = true then ((lev x.toNat : Nat) : Int) else -1
theorem lev_one {x l L : Nat} (h : IsLev x L) (hl : l < L) : x / 2 ^ l % 2 = 1 := by
  have e := Nat.mod_mul_right_div_self x (2 ^ l) 2
  rw [← Nat.pow_succ] at e
  rw [← e, ← Nat.mod_mod_of_dvd x (Nat.pow_dvd_pow 2 (show l + 1 ≤ L + 1 by omega)), h, ones_mod (show l + 1 ≤ L by omega), Nat.pow_succ]
  have hp := pow_pos' l
  rw [show 2 ^ l * 2 - 1 = 2 ^ l - 1 + 2 ^ l by omega, Nat.add_div_right _ hp, Nat.div_eq_of_lt (by omega)]
theorem lev_nought {x L : Nat} (h : IsLev x L) : x / 2 ^ L % 2 = 0 := by
  have e := Nat.mod_mul_right_div_self x (2 ^ L) 2
  rw [← Nat.pow_succ] at e
  have hp := pow_pos' L
  rw [← e, h]
  exact Nat.div_eq_of_lt (by omega)
def LevJ (x : Nat) (w : World) (a' : Act) (w' : World) : Prop :=
  ∃ l : Nat, l ≤ lev x ∧ w = w' ∧ ∃ (x1 x2 x4 x5 x6 x7 x8 x9 x10 x11 x12 x13 x14 : Value), a' = { tmps := #[.int .i64 (x : Nat), x1, x2, .int .i64 (l : Nat), x4, x5, x6, x7, x8, x9, x10, x11, x12, x13, x14], defers := [] }
set_option maxRecDepth 100000 in
set_option maxHeartbeats 1000000 in
theorem level_node (x : Nat) (hx : x ≤ 131070) (w : World) :
    Calls Try.prog 141 #[.int .i64 (x : Nat)] w fun e w' => e = .returned (.int .i64 (lev x : Nat)) ∧ w = w' := by
  have N := node_any x
  have hn : isNode (x : Int) = true := by rw [isNode, decide_eq_true]; omega
  rw [hn] at N
  have HN := Lib.hid N
  clear N hn
  have hl16 := lev_le hx
  go_enter Try.func141, Try.ntmps141
  go_wp2_with fail
  refine wp_scope_label' 0 (LevJ x w) (fun ac _ => 17 - (intOf (ac.tmps.getD 3 undef)).toNat) rfl ?_ ?_
  · rintro ac wx ⟨l, hl, rfl, hf⟩
    iterate 13 (obtain ⟨_, hf⟩ := hf)
    subst hf
    have hb : bits .and .i64 ((x : Int) / 2 ^ l) 1 = (x : Int) / 2 ^ l % 2 := by
      have h1 : x / 2 ^ l ≤ x := Nat.div_le_self _ _
      have := i64_and_nat (x / 2 ^ l) 1 (by omega) (by omega)
      rw [Nat.and_one_is_mod] at this
      have e2 : ((x : Int) / 2 ^ l) = ((x / 2 ^ l : Nat) : Int) := by simp
      rw [e2]
      exact this
    by_cases hlt : l < lev x
    · have e : ((x : Int) / 2 ^ l % 2 == 1) = true := by
        have := lev_one (lev_is hx) hlt
        rw [beq_iff_eq]; exact_mod_cast this
      go_wp2_with fail
      refine wp_goto ⟨rfl, ⟨l + 1, by omega, rfl, _, _, _, _, _, _, _, _, _, _, _, _, _, rfl⟩, ?_⟩
      show 17 - ((l : Int) + 1).toNat < 17 - (l : Int).toNat
      omega
    · obtain rfl : l = lev x := by omega
      have e : ((x : Int) / 2 ^ lev x % 2 == 1) = false := by
        have := lev_nought (lev_is hx)
        rw [beq_eq_false_iff_ne]
        have h2 : (x : Int) / 2 ^ lev x % 2 = 0 := by exact_mod_cast this
        omega
      go_wp2_with fail
      simp only [Exit.jump]
      go_ret
      exact ⟨rfl, rfl⟩
  · intro pass
    have HP := Lib.hid pass
    clear pass
    go_wp2_with fail
    refine (HN.out _).mono ?_
    rintro e w' ⟨rfl, rfl⟩
    go_wp2_with fail
    go_step3
    simp only [Exit.then]
    apply_assumption
    refine HP.out _ _ ⟨0, by omega, rfl, _, _, _, _, _, _, _, _, _, _, _, _, _, rfl⟩
set_option maxRecDepth 100000 in
set_option maxHeartbeats 1000000 in
theorem level_any (x : Int) (w : World) :
    Calls Try.prog 141 #[.int .i64 x] w fun e w' => e = .returned (.int .i64 (levZ x)) ∧ w = w' := by
  by_cases hx : 0 ≤ x ∧ x ≤ 131070
  · obtain ⟨n, rfl⟩ : ∃ n : Nat, x = (n : Int) := ⟨x.toNat, by omega⟩
    have e : levZ (n : Int) = (lev n : Nat) := by
      rw [levZ, if_pos (by rw [isNode, decide_eq_true]; omega), Int.toNat_natCast]
    rw [e]
    exact level_node n (by omega) w
  · have hn : isNode x = false := by rw [isNode, decide_eq_false]; exact hx
    have e : levZ x = -1 := by rw [levZ, if_neg (by rw [hn]; simp)]
    have N := node_any x
    rw [hn] at N
    rw [e]
    have HN := Lib.hid N
    clear N hn hx e
    go_enter Try.func141, Try.ntmps141
    go_wp2_with fail
    go_step3
    go_wp2_with fail
    refine (HN.out _).mono ?_
    rintro e w' ⟨rfl, rfl⟩
    go_wp2_with fail
    simp only [Exit.noGoto]
    go_ret
    exact ⟨rfl, rfl⟩
set_option maxRecDepth 100000 in
set_option maxHeartbeats 1000000 in
theorem levZ_bd (x : Int) : -1 ≤ levZ x ∧ levZ x ≤ 16 := by
  unfold levZ
  split
  · rename_i h
    have h' := of_decide_eq_true h
    have := @lev_le x.toNat (by omega)
    omega
  · omega
theorem wrap_pow {m : Nat} (h : m ≤ 17) : wrap64 (2 ^ m) = ((2 ^ m : Nat) : Int) := by
  have h1 := two_pow_le h
  have h2 := two_pow_pos m
  have e : (2 : Int) ^ m = ((2 ^ m : Nat) : Int) := by simp
  rw [e]
  obtain ⟨p, hp⟩ : ∃ p, p = 2 ^ m := ⟨_, rfl⟩
  rw [← hp] at h1 h2 ⊢
  unfold wrap64
  omega
def halfZ (x : Int) : Int := if 0 < levZ x then 2 ^ (levZ x - 1).toNat else 0
set_option maxRecDepth 100000 in
set_option maxHeartbeats 1000000 in
theorem half_any (x : Int) (w : World) :
    Calls Try.prog 125 #[.int .i64 x] w fun e w' => e = .returned (.int .i64 (halfZ x)) ∧ w = w' := by
  have L := level_any x
  have hb := levZ_bd x
  have e : halfZ x = if 0 < levZ x then 2 ^ (levZ x - 1).toNat else 0 := rfl
  obtain ⟨l, hl⟩ : ∃ l, l = levZ x := ⟨_, rfl⟩
  rw [← hl] at L hb e
  have HL := Lib.hid L
  have HE := Lib.hid e
  clear L e hl
  by_cases h0 : 0 < l
  · obtain ⟨m, rfl⟩ : ∃ m : Nat, l = (m : Int) + 1 := ⟨(l - 1).toNat, by omega⟩
    have e : halfZ x = (2 ^ m : Nat) := by rw [HE.out, if_pos h0]; simp
    rw [e]
    clear e
    go_enter Try.func125, Try.ntmps125
    go_wp2_with fail
    refine (HL.out _).mono ?_
    rintro e w' ⟨rfl, rfl⟩
    go_wp2_with fail
    go_ret
    exact ⟨ret_int (wrap_pow (by omega)), rfl⟩
  · have e : halfZ x = 0 := by rw [HE.out, if_neg h0]
    rw [e]
    clear e
    go_enter Try.func125, Try.ntmps125
    go_wp2_with fail
    refine (HL.out _).mono ?_
    rintro e w' ⟨rfl, rfl⟩
    go_wp2_with fail
    go_ret
    exact ⟨rfl, rfl⟩
theorem halfZ_bd (x : Int) : 0 ≤ halfZ x ∧ halfZ x ≤ 32768 := by
  unfold halfZ
  split
  · have h := levZ_bd x
    obtain ⟨m, hm⟩ : ∃ m, m = (levZ x - 1).toNat := ⟨_, rfl⟩
    rw [← hm]
    have h1 := two_pow_le (show m ≤ 15 by omega)
    have e : (2 : Int) ^ m = ((2 ^ m : Nat) : Int) := by simp
    rw [e]
    obtain ⟨p, hp⟩ : ∃ p, p = 2 ^ m := ⟨_, rfl⟩
    rw [← hp] at h1 ⊢
    omega
  · omega
theorem halfZ_pos {x : Int} (h : halfZ x ≠ 0) : 0 ≤ x ∧ x ≤ 131070 := by
  by_cases hx : isNode x = true
  · exact of_decide_eq_true hx
  · exfalso
    apply h
    rw [halfZ, levZ, if_neg hx, if_neg (by omega)]
def leftZ (x : Int) : Int := if halfZ x = 0 then -1 else x - halfZ x
def rightZ (x : Int) : Int := if halfZ x = 0 then -1 else x + halfZ x
set_option maxRecDepth 100000 in
set_option maxHeartbeats 1000000 in
theorem wleft_any (x : Int) (w : World) :
    Calls Try.prog 89 #[.int .i64 x] w fun e w' => e = .returned (.int .i64 (leftZ x)) ∧ w = w' := by
  have H := half_any x
  have hb := halfZ_bd x
  have hp := @halfZ_pos x
  have e : leftZ x = if halfZ x = 0 then -1 else x - halfZ x := rfl
  obtain ⟨l, hl⟩ : ∃ l, l = halfZ x := ⟨_, rfl⟩
  rw [← hl] at H hb e hp
  have HL := Lib.hid H
  have HE := Lib.hid e
  clear H e hl
  by_cases h0 : l = 0
  · subst h0
    have e : leftZ x = -1 := by rw [HE.out, if_pos rfl]
    rw [e]
    clear e hp hb
    go_enter Try.func89, Try.ntmps89
    go_wp2_with fail
    refine (HL.out _).mono ?_
    rintro e w' ⟨rfl, rfl⟩
    go_wp2_with fail
    go_ret
    exact ⟨rfl, rfl⟩
  · have e : leftZ x = x - l := by rw [HE.out, if_neg h0]
    rw [e]
    have hx := hp h0
    have hc : (l == 0) = false := by simp [h0]
    clear e h0 hp
    go_enter Try.func89, Try.ntmps89
    go_wp2_with fail
    refine (HL.out _).mono ?_
    rintro e w' ⟨rfl, rfl⟩
    go_wp2_with fail
    go_ret
    exact ⟨rfl, rfl⟩
set_option maxRecDepth 100000 in
set_option maxHeartbeats 1000000 in
theorem wright_any (x : Int) (w : World) :
    Calls Try.prog 90 #[.int .i64 x] w fun e w' => e = .returned (.int .i64 (rightZ x)) ∧ w = w' := by
  have H := half_any x
  have hb := halfZ_bd x
  have hp := @halfZ_pos x
  have e : rightZ x = if halfZ x = 0 then -1 else x + halfZ x := rfl
  obtain ⟨l, hl⟩ : ∃ l, l = halfZ x := ⟨_, rfl⟩
  rw [← hl] at H hb e hp
  have HL := Lib.hid H
  have HE := Lib.hid e
  clear H e hl
  by_cases h0 : l = 0
  · subst h0
    have e : rightZ x = -1 := by rw [HE.out, if_pos rfl]
    rw [e]
    clear e hp hb
    go_enter Try.func90, Try.ntmps90
    go_wp2_with fail
    refine (HL.out _).mono ?_
    rintro e w' ⟨rfl, rfl⟩
    go_wp2_with fail
    go_ret
    exact ⟨rfl, rfl⟩
  · have e : rightZ x = x + l := by rw [HE.out, if_neg h0]
    rw [e]
    have hx := hp h0
    have hc : (l == 0) = false := by simp [h0]
    clear e h0 hp
    go_enter Try.func90, Try.ntmps90
    go_wp2_with fail
    refine (HL.out _).mono ?_
    rintro e w' ⟨rfl, rfl⟩
    go_wp2_with fail
    go_ret
    exact ⟨rfl, rfl⟩
def rootZ (n : Int) : Int := if fits n.toNat = true then n - 1 else -1
end Go.Proofs.Ytohldijomcljkaa
/- Plain: a parent's number by bits. -/
namespace Go.Proofs.Ytohldijomcljkaa
open Go.RowKit WalkM

theorem anc_bit (x j i : Nat) : (anc x j).testBit i = if i < j + 1 then decide (i < j) else x.testBit i := by
  have hp := pow_pos' j
  unfold anc
  rw [Nat.mul_comm, Nat.testBit_two_pow_mul_add _ (show 2 ^ j - 1 < 2 ^ (j + 1) by rw [Nat.pow_succ]; omega)]
  split
  · rw [Nat.testBit_two_pow_sub_one]
  · rw [Nat.testBit_div_two_pow]
    congr 1; omega
theorem par_bits {x l : Nat} (h : IsLev x l) (hl : l ≤ 17) (hx : x < 2 ^ 63) : (x ||| 2 ^ l) &&& (2 ^ 64 - (2 ^ (l + 1) + 1)) = anc x (l + 1) := by
  have h0 := anc_self h
  apply Nat.eq_of_testBit_eq
  intro i
  have hb : 2 ^ (l + 1) < 2 ^ 64 := Nat.pow_lt_pow_right (by omega) (by omega)
  rw [Nat.testBit_and, Nat.testBit_or, Nat.testBit_two_pow, Nat.testBit_two_pow_sub_succ hb, Nat.testBit_two_pow, anc_bit]
  have hi := anc_bit x l i
  rw [h0] at hi
  by_cases h64 : i < 64
  · by_cases h1 : i < l
    · rw [hi, if_pos (by omega), if_pos (by omega)]
      have e2 : decide (l + 1 = i) = false := by simp; omega
      have e3 : decide (i < l + 1) = true := by simp; omega
      rw [e2, e3]
      simp [h1, h64]
    · by_cases h2 : i = l
      · subst h2
        rw [hi]; simp; omega
      · by_cases h3 : i = l + 1
        · subst h3; simp
        · rw [if_neg (by omega)]
          have e1 : decide (l = i) = false := by simp; omega
          have e2 : decide (l + 1 = i) = false := by simp; omega
          rw [e1, e2]
          simp [h64]
  · have : x.testBit i = false := Nat.testBit_lt_two_pow (Nat.lt_of_lt_of_le hx (Nat.pow_le_pow_right (by omega) (by omega)))
    rw [if_neg (by omega), this]
    simp [h64]
theorem i64_andnot_nat (a b : Nat) (ha : a < 9223372036854775808) (hb : b < 9223372036854775808) : bits .andNot .i64 (a : Int) (b : Int) = ((a &&& (2 ^ 64 - (b + 1)) : Nat) : Int) := by
  have hx : a &&& (2 ^ 64 - (b + 1)) ≤ a := Nat.and_le_left
  show IntKind.i64.wrap ((BitVec.ofInt 64 (a : Int) &&& ~~~ BitVec.ofInt 64 (b : Int)).toNat : Int) = _
  rw [BitVec.toNat_and, BitVec.toNat_not, ofInt_64 a ha, ofInt_64 b hb, IntKind.wrap_i64, show 2 ^ 64 - 1 - b = 2 ^ 64 - (b + 1) by omega]
  omega
end Go.Proofs.Ytohldijomcljkaa
/- Walks: walk.Parent, walk.Sibling, walk.Under. -/
namespace Go.Proofs.Ytohldijomcljkaa
open Go.RowKit WalkM

theorem wrap_pow' {m : Nat} (h : m ≤ 17) : IntKind.i64.wrap (2 ^ m) = ((2 ^ m : Nat) : Int) := by
  have h1 := two_pow_le h
  have h2 := two_pow_pos m
  have e : (2 : Int) ^ m = ((2 ^ m : Nat) : Int) := by simp
  rw [e]
  obtain ⟨p, hp⟩ : ∃ p, p = 2 ^ m := ⟨_, rfl⟩
  rw [← hp] at h1 h2 ⊢
  rw [IntKind.wrap_i64]
  omega
def parZ (x n : Int) : Int := if isOf x n = true ∧ x ≠ n - 1 then ((anc x.toNat (lev x.toNat + 1) : Nat) : Int) else -1
theorem isOf_bd {x n : Int} (h : isOf x n = true) : 0 ≤ x ∧ x ≤ 2 * n - 2 ∧ 1 ≤ n ∧ n ≤ 65536 := by
  unfold isOf at h
  rw [Bool.and_eq_true] at h
  have h1 := fits_small h.1
  have h2 := of_decide_eq_true h.2
  omega
theorem levZ_nat {x : Nat} (h : x ≤ 131070) : levZ (x : Int) = (lev x : Nat) := by
  rw [levZ, if_pos (by rw [isNode, decide_eq_true]; omega), Int.toNat_natCast]
set_option maxRecDepth 100000 in
set_option maxHeartbeats 1000000 in
theorem parent_any (x n : Int) (w : World) (h1 : -9223372036854775808 ≤ n) (h2 : n ≤ 9223372036854775807) :
    Calls Try.prog 110 #[.int .i64 x, .int .i64 n] w fun e w' => e = .returned (.int .i64 (parZ x n)) ∧ ∃ k, w' = w.drewN k := by
  have F := of_any x n
  by_cases hf : isOf x n = true
  · have hs := isOf_bd hf
    rw [hf] at F
    have HF := Lib.hid (F · h1 h2)
    clear F h1 h2
    by_cases hr : x = n - 1
    · have e : parZ x n = -1 := by rw [parZ, if_neg (by omega)]
      rw [e]
      subst hr
      clear e hf
      go_enter Try.func110, Try.ntmps110
      go_wp2_with fail
      refine (HF.out _).mono ?_
      rintro e w' ⟨rfl, rfl⟩
      go_wp2_with fail
      go_ret
      exact ⟨rfl, 0, rfl⟩
    · have e : parZ x n = ((anc x.toNat (lev x.toNat + 1) : Nat) : Int) := by rw [parZ, if_pos ⟨hf, hr⟩]
      rw [e]
      have hc : (x == n - 1) = false := by simp [hr]
      clear e hf hr
      obtain ⟨m, rfl⟩ : ∃ m : Nat, x = (m : Int) := ⟨x.toNat, by omega⟩
      rw [Int.toNat_natCast]
      have hm : m ≤ 131070 := by omega
      have L := level_any (m : Int)
      rw [levZ_nat hm] at L
      have hl := lev_le hm
      have hp := par_bits (lev_is hm) (by omega) (by omega)
      obtain ⟨l, hl'⟩ : ∃ l, l = lev m := ⟨_, rfl⟩
      rw [← hl'] at L hl hp ⊢
      have q1 := two_pow_le (show l ≤ 16 by omega)
      have q2 := two_pow_le (show l + 1 ≤ 17 by omega)
      have w1 := wrap_pow (show l ≤ 17 by omega)
      have w2 := wrap_pow (show l + 1 ≤ 17 by omega)
      have b0 : m ||| 2 ^ l < 2 ^ 17 := Nat.or_lt_two_pow (by omega) (by omega)
      have b1 := i64_or_nat m (2 ^ l) (by omega) (by omega)
      have b2 := i64_andnot_nat (m ||| 2 ^ l) (2 ^ (l + 1)) (by omega) (by omega)
      rw [hp] at b2
      have HL := Lib.hid L
      have W1 := Lib.hid w1
      have W2 := Lib.hid w2
      have B1 := Lib.hid b1
      have B2 := Lib.hid b2
      clear hl' L w1 w2 b1 b2 b0 q1 q2 hp
      go_enter Try.func110, Try.ntmps110
      go_wp2_with fail
      refine (HF.out _).mono ?_
      rintro e w' ⟨rfl, rfl⟩
      go_wp2_with fail
      refine (HL.out _).mono ?_
      rintro e w' ⟨rfl, rfl⟩
      go_wp2_with fail
      have w3 : IntKind.i64.wrap ((l : Int) + 1) = (l : Int) + 1 := by rw [IntKind.wrap_i64]; omega
      go_quiet (fail)
      clear w3
      have e3 : bits .andNot .i64 (bits .or .i64 (m : Int) (IntKind.i64.wrap (2 ^ l))) (IntKind.i64.wrap (2 ^ (l + 1))) = ((anc m (l + 1) : Nat) : Int) := by
        rw [wrap_pow' (show l ≤ 17 by omega), wrap_pow' (show l + 1 ≤ 17 by omega), B1.out, B2.out]
      rw [e3]
      clear e3
      go_wp2_with fail
      go_ret
      exact ⟨rfl, _, rfl⟩
  · have e : parZ x n = -1 := by rw [parZ, if_neg (by intro h; exact hf h.1)]
    have hf' : isOf x n = false := by rw [← Bool.not_eq_true]; exact hf
    rw [e]
    rw [hf'] at F
    have HF := Lib.hid (F · h1 h2)
    clear F hf hf' h1 h2 e
    go_enter Try.func110, Try.ntmps110
    go_wp2_with fail
    refine (HF.out _).mono ?_
    rintro e w' ⟨rfl, rfl⟩
    go_wp2_with fail
    go_ret
    exact ⟨rfl, 0, rfl⟩
theorem parZ_bd (x n : Int) : -1 ≤ parZ x n ∧ (0 ≤ parZ x n → isOf x n = true ∧ x ≠ n - 1) := by
  unfold parZ
  split
  · rename_i h; exact ⟨by omega, fun _ => h⟩
  · exact ⟨by omega, fun h => absurd h (by omega)⟩
def sibZ (x n : Int) : Int := if parZ x n < 0 then -1 else if x < parZ x n then rightZ (parZ x n) else leftZ (parZ x n)
set_option maxRecDepth 100000 in
set_option maxHeartbeats 1000000 in
theorem sibling_any (x n : Int) (w : World) (h1 : -9223372036854775808 ≤ n) (h2 : n ≤ 9223372036854775807) :
    Calls Try.prog 115 #[.int .i64 x, .int .i64 n] w fun e w' => e = .returned (.int .i64 (sibZ x n)) ∧ ∃ k, w' = w.drewN k := by
  have P := fun w => parent_any x n w h1 h2
  have e : sibZ x n = if parZ x n < 0 then -1 else if x < parZ x n then rightZ (parZ x n) else leftZ (parZ x n) := rfl
  obtain ⟨p, hp⟩ : ∃ p, p = parZ x n := ⟨_, rfl⟩
  rw [← hp] at P e
  have HP := Lib.hid P
  have HE := Lib.hid e
  clear P e hp h1 h2
  by_cases hn : p < 0
  · have e : sibZ x n = -1 := by rw [HE.out, if_pos hn]
    rw [e]
    clear e
    go_enter Try.func115, Try.ntmps115
    go_wp2_with fail
    refine (HP.out _).mono ?_
    rintro e w' ⟨rfl, k, rfl⟩
    go_wp2_with fail
    go_ret
    exact ⟨rfl, _, rfl⟩
  · by_cases hx : x < p
    · have e : sibZ x n = rightZ p := by rw [HE.out, if_neg hn, if_pos hx]
      rw [e]
      have R := wright_any p
      obtain ⟨r, hr⟩ : ∃ r, r = rightZ p := ⟨_, rfl⟩
      rw [← hr] at R ⊢
      have HR := Lib.hid R
      clear e hr R
      go_enter Try.func115, Try.ntmps115
      go_wp2_with fail
      refine (HP.out _).mono ?_
      rintro e w' ⟨rfl, k, rfl⟩
      go_wp2_with fail
      refine (HR.out _).mono ?_
      rintro e w' ⟨rfl, rfl⟩
      go_wp2_with fail
      go_ret
      exact ⟨rfl, _, rfl⟩
    · have e : sibZ x n = leftZ p := by rw [HE.out, if_neg hn, if_neg hx]
      rw [e]
      have R := wleft_any p
      obtain ⟨r, hr⟩ : ∃ r, r = leftZ p := ⟨_, rfl⟩
      rw [← hr] at R ⊢
      have HR := Lib.hid R
      clear e hr R
      go_enter Try.func115, Try.ntmps115
      go_wp2_with fail
      refine (HP.out _).mono ?_
      rintro e w' ⟨rfl, k, rfl⟩
      go_wp2_with fail
      refine (HR.out _).mono ?_
      rintro e w' ⟨rfl, rfl⟩
      go_wp2_with fail
      go_ret
      exact ⟨rfl, _, rfl⟩
end Go.Proofs.Ytohldijomcljkaa
/- Walks: walk.Under, walk.Span. -/
namespace Go.Proofs.Ytohldijomcljkaa
open Go.RowKit WalkM

def wideZ (y : Int) : Int := 2 ^ (levZ y).toNat - 1
def undZ (x y : Int) : Bool := isNode x && isNode y && decide (y - wideZ y ≤ x ∧ x ≤ y + wideZ y)
set_option maxRecDepth 100000 in
set_option maxHeartbeats 1000000 in
theorem under_any (x y : Int) (w : World) :
    Calls Try.prog 119 #[.int .i64 x, .int .i64 y] w fun e w' => e = .returned (.bool (undZ x y)) ∧ w = w' := by
  have N := node_any x
  by_cases hx : isNode x = true
  · rw [hx] at N
    have HN := Lib.hid N
    have M := node_any y
    clear N
    by_cases hy : isNode y = true
    · rw [hy] at M
      have HM := Lib.hid M
      have e : undZ x y = decide (y - wideZ y ≤ x ∧ x ≤ y + wideZ y) := by rw [undZ, hx, hy]; rfl
      rw [e]
      have x' := of_decide_eq_true hx
      have y' := of_decide_eq_true hy
      clear hx hy e M
      obtain ⟨m, rfl⟩ : ∃ m : Nat, y = (m : Int) := ⟨y.toNat, by omega⟩
      have hm : m ≤ 131070 := by omega
      have L := level_any (m : Int)
      have ew : wideZ (m : Int) = 2 ^ (lev m) - 1 := by rw [wideZ, levZ_nat hm, Int.toNat_natCast]
      rw [ew]
      rw [levZ_nat hm] at L
      have hl := lev_le hm
      obtain ⟨l, hl'⟩ : ∃ l, l = lev m := ⟨_, rfl⟩
      rw [← hl'] at L hl ⊢
      have HL := Lib.hid L
      have q1 := two_pow_le (show l ≤ 16 by omega)
      have q2 := two_pow_pos l
      have ep : (2 : Int) ^ l = ((2 ^ l : Nat) : Int) := by simp
      rw [ep]
      have W1 := wrap_pow (show l ≤ 17 by omega)
      rw [ep] at W1
      obtain ⟨p, hp⟩ : ∃ p, p = 2 ^ l := ⟨_, rfl⟩
      rw [← hp] at q1 q2 W1 ep ⊢
      have HW := Lib.hid W1
      have HP := Lib.hid ep
      clear hl' L ew hp
      by_cases ha : (m : Int) - ((p : Int) - 1) ≤ x
      · have e : decide ((m : Int) - ((p : Int) - 1) ≤ x ∧ x ≤ (m : Int) + ((p : Int) - 1)) = decide (x ≤ (m : Int) + ((p : Int) - 1)) := by
          by_cases hb : x ≤ (m : Int) + ((p : Int) - 1)
          · rw [decide_eq_true ⟨ha, hb⟩, decide_eq_true hb]
          · rw [decide_eq_false (fun h => hb h.2), decide_eq_false hb]
        rw [e]
        clear e
        obtain ⟨b, hb⟩ : ∃ b, b = decide (x ≤ (m : Int) + ((p : Int) - 1)) := ⟨_, rfl⟩
        rw [← hb]
        have HB := Lib.hid hb
        clear hb
        go_enter Try.func119, Try.ntmps119
        go_wp2_with fail
        refine (HN.out _).mono ?_
        rintro e w' ⟨rfl, rfl⟩
        go_wp2_with fail
        refine (HM.out _).mono ?_
        rintro e w' ⟨rfl, rfl⟩
        go_wp2_with fail
        refine (HL.out _).mono ?_
        rintro e w' ⟨rfl, rfl⟩
        go_wp2_with fail
        go_ret
        exact ⟨ret_bool HB.out.symm, rfl⟩
      · rw [decide_eq_false (fun h => ha h.1)]
        go_enter Try.func119, Try.ntmps119
        go_wp2_with fail
        refine (HN.out _).mono ?_
        rintro e w' ⟨rfl, rfl⟩
        go_wp2_with fail
        refine (HM.out _).mono ?_
        rintro e w' ⟨rfl, rfl⟩
        go_wp2_with fail
        refine (HL.out _).mono ?_
        rintro e w' ⟨rfl, rfl⟩
        go_wp2_with fail
        go_ret
        exact ⟨rfl, rfl⟩
    · have hy' : isNode y = false := by rw [← Bool.not_eq_true]; exact hy
      rw [hy'] at M
      have HM := Lib.hid M
      have e : undZ x y = false := by rw [undZ, hy', Bool.and_false, Bool.false_and]
      rw [e]
      clear hx hy hy' e M
      go_enter Try.func119, Try.ntmps119
      go_wp2_with fail
      refine (HN.out _).mono ?_
      rintro e w' ⟨rfl, rfl⟩
      go_wp2_with fail
      refine (HM.out _).mono ?_
      rintro e w' ⟨rfl, rfl⟩
      go_wp2_with fail
      go_ret
      exact ⟨rfl, rfl⟩
  · have hx' : isNode x = false := by rw [← Bool.not_eq_true]; exact hx
    rw [hx'] at N
    have HN := Lib.hid N
    have e : undZ x y = false := by rw [undZ, hx', Bool.false_and, Bool.false_and]
    rw [e]
    clear hx hx' e N
    go_enter Try.func119, Try.ntmps119
    go_wp2_with fail
    refine (HN.out _).mono ?_
    rintro e w' ⟨rfl, rfl⟩
    go_wp2_with fail
    go_ret
    exact ⟨rfl, rfl⟩
end Go.Proofs.Ytohldijomcljkaa
/- Plain mathematics: levels below the root, ancestors within a tree. -/
namespace Go.Proofs.Ytohldijomcljkaa.WalkM

theorem lev_root {x d l : Nat} (hx : x + 1 < 2 ^ (d + 1)) (hl : IsLev x l) : l ≤ d ∧ (l = d ↔ x = 2 ^ d - 1) := by
  have hd := pow_pos' d
  unfold IsLev at hl
  rw [Nat.pow_succ] at hx
  by_cases h : l ≤ d
  · refine ⟨h, ?_, ?_⟩
    · rintro rfl
      rw [Nat.mod_eq_of_lt (by rw [Nat.pow_succ]; omega)] at hl
      exact hl
    · intro e
      have h2 : IsLev x d := by
        unfold IsLev
        rw [Nat.mod_eq_of_lt (by rw [Nat.pow_succ]; omega)]
        exact e
      exact lev_unique hl h2
  · exfalso
    have h1 : 2 ^ (d + 1) ≤ 2 ^ l := Nat.pow_le_pow_right (by omega) (by omega)
    rw [Nat.pow_succ] at h1
    rw [Nat.mod_eq_of_lt (by rw [Nat.pow_succ]; omega)] at hl
    omega
theorem anc_root {x d : Nat} (hx : x < 2 ^ (d + 1)) : anc x d = 2 ^ d - 1 := by
  unfold anc
  rw [Nat.div_eq_of_lt hx]
  omega
theorem anc_le {x d j : Nat} (hx : x < 2 ^ (d + 1)) (hj : j ≤ d) : anc x j + 1 < 2 ^ (d + 1) := by
  have hp := pow_pos' (j + 1)
  have hq := pow_pos' j
  obtain ⟨e, rfl⟩ : ∃ e, d = j + e := ⟨d - j, by omega⟩
  have h1 : x / 2 ^ (j + 1) < 2 ^ e := by
    rw [Nat.div_lt_iff_lt_mul hp, ← Nat.pow_add]
    rw [show e + (j + 1) = j + e + 1 by omega]; exact hx
  have h2 : (x / 2 ^ (j + 1) + 1) * 2 ^ (j + 1) ≤ 2 ^ e * 2 ^ (j + 1) := Nat.mul_le_mul_right _ h1
  rw [← Nat.pow_add, Nat.add_mul, Nat.one_mul, show e + (j + 1) = j + e + 1 by omega] at h2
  unfold anc
  have h3 : 2 ^ (j + 1) = 2 * 2 ^ j := by rw [Nat.pow_succ]; omega
  omega
end Go.Proofs.Ytohldijomcljkaa.WalkM
/- Walks: walk.Path. -/
namespace Go.Proofs.Ytohldijomcljkaa
open Go.RowKit WalkM

theorem isOf_nat {x d : Nat} (hd : d ≤ 16) : isOf (x : Int) ((2 ^ d : Nat) : Int) = decide (x + 1 < 2 ^ (d + 1)) := by
  have hf : fits (2 ^ d) = true := (fits_iff _).2 ⟨d, hd, rfl⟩
  have hp := pow_pos' d
  rw [isOf, Int.toNat_natCast, hf, Bool.true_and, Nat.pow_succ]
  generalize 2 ^ d = p at *
  by_cases h : x + 1 < p * 2
  · rw [decide_eq_true h, decide_eq_true]; omega
  · rw [decide_eq_false h, decide_eq_false]; omega
/-- the parent on the way up of x in the tree of 2 to the d leaves, from the level j -/
def nxt (x d j : Nat) : Int := if j < d then ((anc x (j + 1) : Nat) : Int) else -1
theorem parZ_nat {x d : Nat} (hd : d ≤ 16) (hx : x + 1 < 2 ^ (d + 1)) : parZ (x : Int) ((2 ^ d : Nat) : Int) = nxt x d (lev x) := by
  have h17 := two_pow_le (show d + 1 ≤ 17 by omega)
  have hl := lev_root hx (lev_is (by omega))
  have hp := pow_pos' d
  unfold parZ nxt
  rw [isOf_nat hd, decide_eq_true hx, Int.toNat_natCast]
  by_cases h : lev x < d
  · rw [if_pos h, if_pos]
    refine ⟨rfl, fun e => ?_⟩
    have : x = 2 ^ d - 1 := by omega
    have := hl.2.2 this
    omega
  · rw [if_neg h, if_neg]
    rintro ⟨_, e⟩
    apply e
    have := hl.2.1 (by omega)
    omega
theorem parZ_anc {x d j : Nat} (hd : d ≤ 16) (hx : x + 1 < 2 ^ (d + 1)) (hj : j ≤ d) : parZ ((anc x j : Nat) : Int) ((2 ^ d : Nat) : Int) = nxt x d j := by
  have h17 := two_pow_le (show d + 1 ≤ 17 by omega)
  have hle := anc_le (show x < 2 ^ (d + 1) by omega) hj
  rw [parZ_nat hd hle, lev_eq (by omega) (anc_lev x j)]
  unfold nxt
  rw [anc_anc (by omega)]
/-- k ancestors from above the level j on -/
def ups (x : Nat) : Nat → Nat → List Nat
  | _, 0 => []
  | j, k + 1 => anc x (j + 1) :: ups x (j + 1) k
theorem ups_len (x : Nat) : ∀ k j, (ups x j k).length = k := by
  intro k
  induction k with
  | zero => intro j; rfl
  | succ k ih => intro j; simp [ups, ih]
theorem ups_snoc (x : Nat) : ∀ k j, ups x j (k + 1) = ups x j k ++ [anc x (j + k + 1)] := by
  intro k
  induction k with
  | zero => intro j; rfl
  | succ k ih =>
    intro j
    rw [ups, ih, ups]
    simp only [List.cons_append]
    rw [show j + 1 + k + 1 = j + (k + 1) + 1 by omega]
def nvs (L : List Nat) : List Value := ivs .i64 (L.map fun (n : Nat) => (n : Int))
theorem nvs_len (L : List Nat) : (nvs L).length = L.length := by simp [nvs, ivs]
theorem nvs_snoc (L : List Nat) (x : Nat) : nvs (L ++ [x]) = nvs L ++ [.int .i64 (x : Int)] := by simp [nvs, ivs]
theorem intsE : Elem Try.prog 37 3 (.int .i64 0) 8 := ⟨Try.underlying37, by kernel_rfl, rfl, by omega⟩
set_option maxRecDepth 100000 in
set_option maxHeartbeats 1000000 in
theorem path_any (x d : Nat) (hd : d ≤ 16) (hx : x + 1 < 2 ^ (d + 1)) (w : World) :
    Calls Try.prog 71 #[.int .i64 x, .int .i64 ((2 ^ d : Nat) : Int)] w fun e w' => ∃ v, e = .returned v ∧ Own w' w.heap.size 3 v (nvs (ups x (lev x) (d - lev x))) ∧ Below w.heap.size w w' := by
  have h17 := two_pow_le (show d + 1 ≤ 17 by omega)
  have h16 := two_pow_le hd
  have hl := (lev_root hx (lev_is (by omega))).1
  have P0 := fun w => parent_any x ((2 ^ d : Nat) : Int) w (by omega) (by omega)
  rw [parZ_nat hd hx] at P0
  have P1 : ∀ j, j ≤ d → ∀ w, Calls Try.prog 110 #[.int .i64 (anc x j : Nat), .int .i64 ((2 ^ d : Nat) : Int)] w fun e w' => e = .returned (.int .i64 (nxt x d j)) ∧ ∃ k, w' = w.drewN k := by
    intro j hj w
    have := parent_any (anc x j : Nat) ((2 ^ d : Nat) : Int) w (by omega) (by omega)
    rw [parZ_anc hd hx hj] at this
    exact this
  have HP0 := Lib.hid P0
  have HP1 := Lib.hid P1
  obtain ⟨l, hl'⟩ : ∃ l, l = lev x := ⟨_, rfl⟩
  rw [← hl'] at HP0 hl ⊢
  obtain ⟨n, hn⟩ : ∃ n, n = 2 ^ d := ⟨_, rfl⟩
  have HX := Lib.hid hx
  have HN := Lib.hid hn
  have hn16 : n ≤ 65536 := by rw [hn]; exact h16
  rw [← hn] at HP0 HP1 ⊢
  clear P0 P1 hl' hx hn h17 h16
  go_enter Try.func71, Try.ntmps71
  go_wp2_with fail
  refine (HP0.out _).mono ?_
  rintro e w' ⟨rfl, k, rfl⟩
  go_wp2_with fail
  go_loopg [0, 5] (d - l) (fun k y r wr => ∃ i : Nat, i + k = d - l ∧ y = .int .i64 (nxt x d (l + i)) ∧ Own wr w.heap.size 3 r (nvs (ups x l i)) ∧ Below w.heap.size w wr)
  case atStart => exact ⟨0, by omega, rfl, Own.nil _ _ _, below_drewN' (Below.refl _ _) _⟩
  case round =>
    obtain ⟨i, hi, rfl, hown, hbel⟩ := hrel
    have HO := Lib.hid hown
    have HB := Lib.hid hbel
    have hsz := hbel.size
    clear hown hbel
    by_cases hlt : l + i < d
    · rw [nxt, if_pos hlt]
      have hP := HP1.out (l + i + 1) (by omega)
      obtain ⟨a, ha⟩ : ∃ a, a = anc x (l + i + 1) := ⟨_, rfl⟩
      rw [← ha] at hP ⊢
      have HA := Lib.hid ha
      have HP := Lib.hid hP
      clear ha hP
      go_wp2_with (at_builtin; refine wpList_push rfl (.tmp 14) (.tmp 16) 37 rfl w.heap.size 3 _ 8 intsE _ _ rfl (HO.out.alloc _) ⟨wr.heap.size, 0, none⟩ (.int .i64 (a : Int)) rfl ?c1 rfl ?c2 ?c3 ?_)
      case c1 => exact cell_new rfl
      case c2 => rw [nvs_len, ups_len]; omega
      case c3 => simp; omega
      rintro v' w1 hown1 hg1 hb1
      clear hg1
      have HO1 := Lib.hid hown1
      have HB1 := Lib.hid hb1
      clear hown1 hb1
      go_wp2_with fail
      refine (HP.out _).mono ?_
      rintro e w' ⟨rfl, k2, rfl⟩
      go_wp2_with fail
      go_roundg (gk - 1)
      case measure => omega
      case rel =>
        refine ⟨i + 1, by omega, by rw [Nat.add_assoc], ?_, ?_⟩
        · rw [ups_snoc, nvs_snoc, ← HA.out]
          exact HO1.out.drewN _
        · exact below_drewN' ((HB.out.alloc hsz _).trans HB1.out) _
    · rw [nxt, if_neg hlt]
      obtain rfl : i = d - l := by omega
      go_wp2_with fail
      go_ret
      exact ⟨_, rfl, HO.out, HB.out⟩
end Go.Proofs.Ytohldijomcljkaa
