/- Walks: walk.Level, walk.half, walk.Left, walk.Right, walk.Root, walk.Span. -/
import Derived.Test.YtbjfacfphgnhpaaWalkBase
namespace Go.Proofs.Ytbjfacfphgnhpaa
open Go.RowKit WalkM

def levZ (x : Int) : Int := if isNode x = true then ((lev x.toNat : Nat) : Int) else -1
theorem lev_one {x l L : Nat} (h : IsLev x L) (hl : l < L) : x / 2 ^ l % 2 = 1 := by
  have e := Nat.mod_mul_right_div_self x (2 ^ l) 2
  rw [← Nat.pow_succ] at e
  rw [← e, ← Nat.mod_mod_of_dvd x (Nat.pow_dvd_pow 2 (show l + 1 ≤ L + 1 by omega)), h, ones_mod (show l + 1 ≤ L by omega), Nat.pow_succ]
  have hp := pow_pos' l
  rw [show 2 ^ l * 2 - 1 = 2 ^ l - 1 + 2 ^ l by omega, Nat.add_div_right _ hp, Nat.div_eq_of_lt (by omega)]
theorem lev_nought {x L : Nat} (h : IsLev x L) : x / 2 ^ L % 2 = 0 := by
  have e := Nat.mod_mul_right_div_self x (2 ^ L) 2
  rw [← Nat.pow_succ] at e
  have hp := pow_pos' L
  rw [← e, h]
  exact Nat.div_eq_of_lt (by omega)
def LevJ (x : Nat) (w : World) (a' : Act) (w' : World) : Prop :=
  ∃ l : Nat, l ≤ lev x ∧ w = w' ∧ ∃ (x1 x2 x4 x5 x6 x7 x8 x9 x10 x11 x12 x13 x14 : Value), a' = { tmps := #[.int .i64 (x : Nat), x1, x2, .int .i64 (l : Nat), x4, x5, x6, x7, x8, x9, x10, x11, x12, x13, x14], defers := [] }
set_option maxRecDepth 100000 in
set_option maxHeartbeats 1000000 in
theorem level_node (x : Nat) (hx : x ≤ 131070) (w : World) :
    Calls Try.prog 40 #[.int .i64 (x : Nat)] w fun e w' => e = .returned (.int .i64 (lev x : Nat)) ∧ w = w' := by
  have N := node_any x
  have hn : isNode (x : Int) = true := by rw [isNode, decide_eq_true]; omega
  rw [hn] at N
  have HN := Lib.hid N
  clear N hn
  have hl16 := lev_le hx
  go_enter Try.func40, Try.ntmps40
  go_wp2_with fail
  refine wp_scope_label' 0 (LevJ x w) (fun ac _ => 17 - (intOf (ac.tmps.getD 3 undef)).toNat) rfl ?_ ?_
  · rintro ac wx ⟨l, hl, rfl, hf⟩
    iterate 13 (obtain ⟨_, hf⟩ := hf)
    subst hf
    have hb : bits .and .i64 ((x : Int) / 2 ^ l) 1 = (x : Int) / 2 ^ l % 2 := by
      have h1 : x / 2 ^ l ≤ x := Nat.div_le_self _ _
      have := i64_and_nat (x / 2 ^ l) 1 (by omega) (by omega)
      rw [Nat.and_one_is_mod] at this
      have e2 : ((x : Int) / 2 ^ l) = ((x / 2 ^ l : Nat) : Int) := by simp
      rw [e2]
      exact this
    by_cases hlt : l < lev x
    · have e : ((x : Int) / 2 ^ l % 2 == 1) = true := by
        have := lev_one (lev_is hx) hlt
        rw [beq_iff_eq]; exact_mod_cast this
      go_wp2_with fail
      refine wp_goto ⟨rfl, ⟨l + 1, by omega, rfl, _, _, _, _, _, _, _, _, _, _, _, _, _, rfl⟩, ?_⟩
      show 17 - ((l : Int) + 1).toNat < 17 - (l : Int).toNat
      omega
    · obtain rfl : l = lev x := by omega
      have e : ((x : Int) / 2 ^ lev x % 2 == 1) = false := by
        have := lev_nought (lev_is hx)
        rw [beq_eq_false_iff_ne]
        have h2 : (x : Int) / 2 ^ lev x % 2 = 0 := by exact_mod_cast this
        omega
      go_wp2_with fail
      simp only [Exit.jump]
      go_ret
      exact ⟨rfl, rfl⟩
  · intro pass
    have HP := Lib.hid pass
    clear pass
    go_wp2_with fail
    refine (HN.out _).mono ?_
    rintro e w' ⟨rfl, rfl⟩
    go_wp2_with fail
    go_step3
    simp only [Exit.then]
    apply_assumption
    refine HP.out _ _ ⟨0, by omega, rfl, _, _, _, _, _, _, _, _, _, _, _, _, _, rfl⟩
set_option maxRecDepth 100000 in
set_option maxHeartbeats 1000000 in
theorem level_any (x : Int) (w : World) :
    Calls Try.prog 40 #[.int .i64 x] w fun e w' => e = .returned (.int .i64 (levZ x)) ∧ w = w' := by
  by_cases hx : 0 ≤ x ∧ x ≤ 131070
  · obtain ⟨n, rfl⟩ : ∃ n : Nat, x = (n : Int) := ⟨x.toNat, by omega⟩
    have e : levZ (n : Int) = (lev n : Nat) := by
      rw [levZ, if_pos (by rw [isNode, decide_eq_true]; omega), Int.toNat_natCast]
    rw [e]
    exact level_node n (by omega) w
  · have hn : isNode x = false := by rw [isNode, decide_eq_false]; exact hx
    have e : levZ x = -1 := by rw [levZ, if_neg (by rw [hn]; simp)]
    have N := node_any x
    rw [hn] at N
    rw [e]
    have HN := Lib.hid N
    clear N hn hx e
    go_enter Try.func40, Try.ntmps40
    go_wp2_with fail
    go_step3
    go_wp2_with fail
    refine (HN.out _).mono ?_
    rintro e w' ⟨rfl, rfl⟩
    go_wp2_with fail
    simp only [Exit.noGoto]
    go_ret
    exact ⟨rfl, rfl⟩
set_option maxRecDepth 100000 in
set_option maxHeartbeats 1000000 in
theorem levZ_bd (x : Int) : -1 ≤ levZ x ∧ levZ x ≤ 16 := by
  unfold levZ
  split
  · rename_i h
    have h' := of_decide_eq_true h
    have := @lev_le x.toNat (by omega)
    omega
  · omega
theorem wrap_pow {m : Nat} (h : m ≤ 17) : wrap64 (2 ^ m) = ((2 ^ m : Nat) : Int) := by
  have h1 := two_pow_le h
  have h2 := two_pow_pos m
  have e : (2 : Int) ^ m = ((2 ^ m : Nat) : Int) := by simp
  rw [e]
  obtain ⟨p, hp⟩ : ∃ p, p = 2 ^ m := ⟨_, rfl⟩
  rw [← hp] at h1 h2 ⊢
  unfold wrap64
  omega
def halfZ (x : Int) : Int := if 0 < levZ x then 2 ^ (levZ x - 1).toNat else 0
set_option maxRecDepth 100000 in
set_option maxHeartbeats 1000000 in
theorem half_any (x : Int) (w : World) :
    Calls Try.prog 60 #[.int .i64 x] w fun e w' => e = .returned (.int .i64 (halfZ x)) ∧ w = w' := by
  have L := level_any x
  have hb := levZ_bd x
  have e : halfZ x = if 0 < levZ x then 2 ^ (levZ x - 1).toNat else 0 := rfl
  obtain ⟨l, hl⟩ : ∃ l, l = levZ x := ⟨_, rfl⟩
  rw [← hl] at L hb e
  have HL := Lib.hid L
  have HE := Lib.hid e
  clear L e hl
  by_cases h0 : 0 < l
  · obtain ⟨m, rfl⟩ : ∃ m : Nat, l = (m : Int) + 1 := ⟨(l - 1).toNat, by omega⟩
    have e : halfZ x = (2 ^ m : Nat) := by rw [HE.out, if_pos h0]; simp
    rw [e]
    clear e
    go_enter Try.func60, Try.ntmps60
    go_wp2_with fail
    refine (HL.out _).mono ?_
    rintro e w' ⟨rfl, rfl⟩
    go_wp2_with fail
    go_ret
    exact ⟨ret_int (wrap_pow (by omega)), rfl⟩
  · have e : halfZ x = 0 := by rw [HE.out, if_neg h0]
    rw [e]
    clear e
    go_enter Try.func60, Try.ntmps60
    go_wp2_with fail
    refine (HL.out _).mono ?_
    rintro e w' ⟨rfl, rfl⟩
    go_wp2_with fail
    go_ret
    exact ⟨rfl, rfl⟩
theorem halfZ_bd (x : Int) : 0 ≤ halfZ x ∧ halfZ x ≤ 32768 := by
  unfold halfZ
  split
  · have h := levZ_bd x
    obtain ⟨m, hm⟩ : ∃ m, m = (levZ x - 1).toNat := ⟨_, rfl⟩
    rw [← hm]
    have h1 := two_pow_le (show m ≤ 15 by omega)
    have e : (2 : Int) ^ m = ((2 ^ m : Nat) : Int) := by simp
    rw [e]
    obtain ⟨p, hp⟩ : ∃ p, p = 2 ^ m := ⟨_, rfl⟩
    rw [← hp] at h1 ⊢
    omega
  · omega
theorem halfZ_pos {x : Int} (h : halfZ x ≠ 0) : 0 ≤ x ∧ x ≤ 131070 := by
  by_cases hx : isNode x = true
  · exact of_decide_eq_true hx
  · exfalso
    apply h
    rw [halfZ, levZ, if_neg hx, if_neg (by omega)]
def leftZ (x : Int) : Int := if halfZ x = 0 then -1 else x - halfZ x
def rightZ (x : Int) : Int := if halfZ x = 0 then -1 else x + halfZ x
set_option maxRecDepth 100000 in
set_option maxHeartbeats 1000000 in
theorem left_any (x : Int) (w : World) :
    Calls Try.prog 38 #[.int .i64 x] w fun e w' => e = .returned (.int .i64 (leftZ x)) ∧ w = w' := by
  have H := half_any x
  have hb := halfZ_bd x
  have hp := @halfZ_pos x
  have e : leftZ x = if halfZ x = 0 then -1 else x - halfZ x := rfl
  obtain ⟨l, hl⟩ : ∃ l, l = halfZ x := ⟨_, rfl⟩
  rw [← hl] at H hb e hp
  have HL := Lib.hid H
  have HE := Lib.hid e
  clear H e hl
  by_cases h0 : l = 0
  · subst h0
    have e : leftZ x = -1 := by rw [HE.out, if_pos rfl]
    rw [e]
    clear e hp hb
    go_enter Try.func38, Try.ntmps38
    go_wp2_with fail
    refine (HL.out _).mono ?_
    rintro e w' ⟨rfl, rfl⟩
    go_wp2_with fail
    go_ret
    exact ⟨rfl, rfl⟩
  · have e : leftZ x = x - l := by rw [HE.out, if_neg h0]
    rw [e]
    have hx := hp h0
    have hc : (l == 0) = false := by simp [h0]
    clear e h0 hp
    go_enter Try.func38, Try.ntmps38
    go_wp2_with fail
    refine (HL.out _).mono ?_
    rintro e w' ⟨rfl, rfl⟩
    go_wp2_with fail
    go_ret
    exact ⟨rfl, rfl⟩
set_option maxRecDepth 100000 in
set_option maxHeartbeats 1000000 in
theorem right_any (x : Int) (w : World) :
    Calls Try.prog 39 #[.int .i64 x] w fun e w' => e = .returned (.int .i64 (rightZ x)) ∧ w = w' := by
  have H := half_any x
  have hb := halfZ_bd x
  have hp := @halfZ_pos x
  have e : rightZ x = if halfZ x = 0 then -1 else x + halfZ x := rfl
  obtain ⟨l, hl⟩ : ∃ l, l = halfZ x := ⟨_, rfl⟩
  rw [← hl] at H hb e hp
  have HL := Lib.hid H
  have HE := Lib.hid e
  clear H e hl
  by_cases h0 : l = 0
  · subst h0
    have e : rightZ x = -1 := by rw [HE.out, if_pos rfl]
    rw [e]
    clear e hp hb
    go_enter Try.func39, Try.ntmps39
    go_wp2_with fail
    refine (HL.out _).mono ?_
    rintro e w' ⟨rfl, rfl⟩
    go_wp2_with fail
    go_ret
    exact ⟨rfl, rfl⟩
  · have e : rightZ x = x + l := by rw [HE.out, if_neg h0]
    rw [e]
    have hx := hp h0
    have hc : (l == 0) = false := by simp [h0]
    clear e h0 hp
    go_enter Try.func39, Try.ntmps39
    go_wp2_with fail
    refine (HL.out _).mono ?_
    rintro e w' ⟨rfl, rfl⟩
    go_wp2_with fail
    go_ret
    exact ⟨rfl, rfl⟩
def rootZ (n : Int) : Int := if fits n.toNat = true then n - 1 else -1
set_option maxRecDepth 100000 in
set_option maxHeartbeats 1000000 in
theorem root_any (n : Int) (w : World) (h1 : -9223372036854775808 ≤ n) (h2 : n ≤ 9223372036854775807) :
    Calls Try.prog 41 #[.int .i64 n] w fun e w' => e = .returned (.int .i64 (rootZ n)) ∧ w = w' := by
  have F := fits_any n
  by_cases hf : fits n.toNat = true
  · have hs := fits_small hf
    have hn1 : 1 ≤ n := by omega
    have hn2 : n ≤ 65536 := by omega
    have e : rootZ n = n - 1 := by rw [rootZ, if_pos hf]
    rw [e]
    rw [hf] at F
    have HF := Lib.hid (F · h1 h2)
    clear F hf hs h1 h2 e
    go_enter Try.func41, Try.ntmps41
    go_wp2_with fail
    refine (HF.out _).mono ?_
    rintro e w' ⟨rfl, rfl⟩
    go_wp2_with fail
    go_ret
    exact ⟨rfl, rfl⟩
  · have e : rootZ n = -1 := by rw [rootZ, if_neg hf]
    have hf' : fits n.toNat = false := by rw [← Bool.not_eq_true]; exact hf
    rw [e]
    rw [hf'] at F
    have HF := Lib.hid (F · h1 h2)
    clear F hf hf' h1 h2 e
    go_enter Try.func41, Try.ntmps41
    go_wp2_with fail
    refine (HF.out _).mono ?_
    rintro e w' ⟨rfl, rfl⟩
    go_wp2_with fail
    go_ret
    exact ⟨rfl, rfl⟩
end Go.Proofs.Ytbjfacfphgnhpaa
