/- Walks: two lists of lists that are the same; nobody's reader. -/
import Derived.Test.YtkihcngllhjabaaWireTakes
namespace Go.Proofs.Ytkihcngllhjabaa
open Go.RowKit WireM
set_option linter.unusedVariables false
theorem same_yes (v v' : Value) (L : List Nat) (w : World) (h : Rd w v (bvs L)) (h' : Rd w v' (bvs L)) (hL : ∀ n ∈ L, n < 256) :
    Calls Try.prog 16 #[v, v'] w fun e w' => e = .returned (.bool true) ∧ ∃ n, w' = w.drewN n := by
  refine (same_any v v' L L w h h' hL hL).mono ?_
  rintro e w' ⟨he, hw⟩
  rw [decide_eq_true rfl] at he
  exact ⟨he, hw⟩
theorem RdL.drewN {w : World} {v : Value} {l : List (List Nat)} (h : RdL w v l) (n : Nat) : RdL (w.drewN n) v l := h
set_option maxRecDepth 100000 in
set_option maxHeartbeats 4000000 in
theorem sameLists_yes (v v' : Value) (l : List (List Nat)) (w : World) (h : RdL w v l) (h' : RdL w v' l) (hl : ∀ r ∈ l, ∀ n ∈ r, n < 256) :
    Calls Try.prog 52 #[v, v'] w fun e w' => e = .returned (.bool true) ∧ ∃ n, w' = w.drewN n := by
  obtain ⟨a, cap, rfl, hc1, hc2, hx⟩ := h.cases
  obtain ⟨a', cap', rfl, hc1', hc2', hx'⟩ := h'.cases
  obtain ⟨k, hk⟩ : ∃ k, k = l.length := ⟨_, rfl⟩
  rw [← hk] at hc1 hc1' ⊢
  have hkm : k ≤ 9223372036854775807 := by unfold maxLen at hc2; omega
  have HX := Lib.hid hx
  have HX' := Lib.hid hx'
  have HL := Lib.hid hl
  have HK := Lib.hid hk
  have hne : ((k : Int) != (k : Int)) = false := by simp
  clear hx hx' hl hk h h'
  go_enter Try.func52, Try.ntmps52
  go_wp2_with fail
  go_loopg [5] k (fun q i wr => ∃ r : Nat, r + q = k ∧ i = .int .i64 (r : Int) ∧ ∃ m, wr = w.drewN m)
  case atStart => exact ⟨0, by omega, rfl, 0, rfl⟩
  case round =>
    obtain ⟨r, hr, rfl, m, hm⟩ := hrel
    have HM := Lib.hid hm
    by_cases hrk : r < k
    · have hrl : r < l.length := by have := HK.out; omega
      obtain ⟨b, o, u, rfl, _, c0, hu⟩ := HX.out r hrl
      obtain ⟨b', o', u', rfl, _, c0', hu'⟩ := HX'.out r hrl
      have hlt := HL.out _ (List.getElem_mem hrl)
      obtain ⟨x, hx⟩ : ∃ x, x = l[r] := ⟨_, rfl⟩
      rw [← hx] at hu hu' hlt
      have e0 : wr.cell? ⟨b, o + r, none⟩ = some u := by rw [HM.out]; exact c0
      have e1 : wr.cell? ⟨b', o' + r, none⟩ = some u' := by rw [HM.out]; exact c0'
      have hS : ∀ n, Calls Try.prog 16 #[u, u'] (wr.drewN n) fun e w' => e = .returned (.bool true) ∧ ∃ k, w' = (wr.drewN n).drewN k := by
        intro n
        refine same_yes u u' x _ ?_ ?_ hlt
        · rw [HM.out]; exact (hu.drewN m).drewN n
        · rw [HM.out]; exact (hu'.drewN m).drewN n
      have HS := Lib.hid hS
      have hrk' : decide ((r : Int) < (k : Int)) = true := by rw [decide_eq_true_iff]; omega
      clear hx hm c0 c0' hu hu' hlt hS
      go_wp2_with fail
      go_quiet ((go_at_call 16; exact Calls.quiet_of (HS.out _)))
      go_wp2_with fail
      go_roundg (gk - 1)
      case measure => omega
      case rel => exact ⟨r + 1, by omega, by go_num, _, by rw [HM.out, World.drewN_drewN]⟩
    · obtain rfl : r = k := by omega
      have hrk' : decide ((r : Int) < (r : Int)) = false := by rw [decide_eq_false_iff_not]; omega
      clear hm
      go_wp2_with fail
      go_ret
      exact ⟨rfl, m, HM.out⟩
-- nobody's reader
set_option maxRecDepth 100000 in
theorem take_nil (n : Int) (w : World) : Calls Try.prog 84 #[.pointer none, .int .i64 n] w fun e w' => e = .returned (.tuple #[.slice none 0 0, .bool false]) ∧ w = w' := by
  go_enter Try.func84, Try.ntmps84
  go_wp2_with fail
  go_ret2
  exact ⟨rfl, rfl⟩
set_option maxRecDepth 100000 in
theorem num_nil (w : World) : Calls Try.prog 54 #[.pointer none, .int .i64 1] w fun e w' => e = .returned (.int .u64 0) ∧ w = w' := by
  have HM := Lib.hid (fun w => may_any 1 w)
  have HT := Lib.hid (fun w => take_nil 1 w)
  have N := fun w => number_any (.slice none 0 0) [] w ⟨none, 0, rfl, Nat.le_refl _, Nat.zero_le _, .inl ⟨rfl, fun _ => rfl⟩⟩ (by simp) (by simp)
  have HN := Lib.hid N
  have hm : mayB 1 = true := by decide
  rw [hm] at HM
  clear N hm
  go_enter Try.func54, Try.ntmps54
  go_wp2_with fail
  refine (HM.out _).mono ?_
  rintro e w' ⟨rfl, rfl⟩
  go_wp2_with fail
  refine (HT.out _).mono ?_
  rintro e w' ⟨rfl, rfl⟩
  go_wp2_with fail
  refine (HN.out _).mono ?_
  rintro e w' ⟨rfl, rfl⟩
  go_wp2_with fail
  go_ret
  exact ⟨rfl, rfl⟩
set_option maxRecDepth 100000 in
theorem length_nil (w : World) : Calls Try.prog 79 #[.pointer none] w fun e w' => e = .returned (.tuple #[.int .i64 0, .bool false]) ∧ w = w' := by
  have HT := Lib.hid (fun w => take_nil 1 w)
  go_enter Try.func79, Try.ntmps79
  go_wp2_with fail
  go_step3
  go_wp2_with fail
  refine (HT.out _).mono ?_
  rintro e w1 ⟨rfl, rfl⟩
  go_wp2_with fail
  simp only [Exit.noGoto]
  go_ret2
  exact ⟨rfl, rfl⟩
set_option maxRecDepth 100000 in
theorem vec_nil (w : World) : Calls Try.prog 46 #[.pointer none] w fun e w' => e = .returned (.slice none 0 0) ∧ w = w' := by
  have HT := Lib.hid (fun w => length_nil w)
  go_enter Try.func46, Try.ntmps46
  go_wp2_with fail
  refine (HT.out _).mono ?_
  rintro e w1 ⟨rfl, rfl⟩
  go_wp2_with fail
  go_ret
  exact ⟨rfl, rfl⟩
set_option maxRecDepth 100000 in
theorem taken_nil (w : World) : Calls Try.prog 55 #[.pointer none, .int .i64 1] w fun e w' => ∃ a c, e = .returned (.slice a 0 c) ∧ Below w.heap.size w w' := by
  have HT := Lib.hid (fun w => take_nil 1 w)
  have C := fun w => bclone_any (.slice none 0 0) [] w ⟨none, 0, rfl, Nat.le_refl _, Nat.zero_le _, .inl ⟨rfl, fun _ => rfl⟩⟩ (by simp)
  have HC := Lib.hid C
  clear C
  go_enter Try.func55, Try.ntmps55
  go_wp2_with fail
  refine (HT.out _).mono ?_
  rintro e w1 ⟨rfl, rfl⟩
  go_wp2_with fail
  refine (HC.out _).mono ?_
  rintro e w1 ⟨v, rfl, hown, hb⟩
  obtain ⟨a3, c3, rfl⟩ : ∃ a c, v = .slice a 0 c := by
    rcases hown.form with rfl | ⟨g, cap, rfl⟩
    · exact ⟨_, _, rfl⟩
    · exact ⟨_, _, rfl⟩
  have HB := Lib.hid hb
  clear hown hb
  go_wp2_with fail
  go_ret
  exact ⟨_, _, rfl, HB.out⟩
set_option maxRecDepth 100000 in
theorem left_nil (w : World) : Calls Try.prog 56 #[.pointer none] w fun e w' => e = .returned (.int .i64 0) ∧ w = w' := by
  go_enter Try.func56, Try.ntmps56
  go_wp2_with fail
  go_ret
  exact ⟨rfl, rfl⟩
set_option maxRecDepth 100000 in
theorem flag_nil (w : World) : Calls Try.prog 57 #[.pointer none] w fun e w' => e = .returned (.bool false) ∧ w = w' := by
  have HT := Lib.hid (fun w => take_nil 1 w)
  go_enter Try.func57, Try.ntmps57
  go_wp2_with fail
  refine (HT.out _).mono ?_
  rintro e w1 ⟨rfl, rfl⟩
  go_wp2_with fail
  go_ret
  exact ⟨rfl, rfl⟩
set_option maxRecDepth 100000 in
theorem err_nil (w : World) : Calls Try.prog 47 #[.pointer none] w fun e w' => e = .returned (.int .u8 2) ∧ w = w' := by
  go_enter Try.func47, Try.ntmps47
  go_wp2_with fail
  go_ret
  exact ⟨rfl, rfl⟩
set_option maxRecDepth 100000 in
theorem end_nil (w : World) : Calls Try.prog 53 #[.pointer none] w fun e w' => e = .returned (.int .u8 2) ∧ w = w' := by
  have HT := Lib.hid (fun w => err_nil w)
  go_enter Try.func53, Try.ntmps53
  go_wp2_with fail
  refine (HT.out _).mono ?_
  rintro e w1 ⟨rfl, rfl⟩
  go_wp2_with fail
  go_ret
  exact ⟨rfl, rfl⟩
end Go.Proofs.Ytkihcngllhjabaa
