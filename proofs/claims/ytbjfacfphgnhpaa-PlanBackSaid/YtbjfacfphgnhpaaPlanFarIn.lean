/- Walks: slices.ContainsFunc with Far's function. -/
import Derived.Test.YtbjfacfphgnhpaaPlanRGap
namespace Go.Proofs.Ytbjfacfphgnhpaa
open Go.RowKit WalkM FloatM
set_option linter.unusedVariables false
/-- all of a list are nodes -/
def allOf (L : List Int) (n : Int) : Bool := L.all fun x => isOf x n
theorem allOf_of {L : List Int} {n : Int} (h : ∀ i, i < L.length → isOf (L.getD i 0) n = true) : allOf L n = true := by
  rw [allOf, List.all_eq_true]
  intro x hx
  obtain ⟨i, hi, rfl⟩ := List.getElem_of_mem hx
  have := h i hi
  rw [List.getD_eq_getElem?_getD, List.getElem?_eq_getElem hi] at this
  exact this
theorem allOf_not {L : List Int} {n : Int} {i : Nat} (hi : i < L.length) (h : isOf (L.getD i 0) n = false) : allOf L n = false := by
  rw [← Bool.not_eq_true, allOf, List.all_eq_true]
  intro hall
  have := hall _ (List.getElem_mem hi)
  rw [List.getD_eq_getElem?_getD, List.getElem?_eq_getElem hi] at h
  rw [show isOf L[i] n = false from h] at this
  cases this
set_option maxRecDepth 100000 in
set_option maxHeartbeats 1000000 in
theorem pfun_any (a n : Int) (B : Nat) (w : World) (h1 : -9223372036854775808 ≤ n) (h2 : n ≤ 9223372036854775807) (hc : w.cell? ⟨B, 0, none⟩ = some (.int .i64 n)) :
    Calls Try.prog 54 #[.int .i64 a, .pointer (some ⟨B, 0, none⟩)] w fun e w' => e = .returned (.bool (!isOf a n)) ∧ w = w' := by
  have U := fun w => pof_any a n w h1 h2
  have HU := Lib.hid U
  clear U
  go_enter Try.func54, Try.ntmps54
  go_wp2_with fail
  refine (HU.out _).mono ?_
  rintro e w' ⟨rfl, rfl⟩
  go_wp2_with fail
  go_ret
  exact ⟨rfl, rfl⟩
def IdxP (L : List Int) (n : Int) (w : World) (e : Ending) (w' : World) : Prop := ∃ i : Int, e = .returned (.int .i64 i) ∧ decide (0 ≤ i) = !allOf L n ∧ w = w'
set_option maxRecDepth 100000 in
set_option maxHeartbeats 1000000 in
theorem pindex_any (n : Int) (B : Nat) (v : Value) (L : List Int) (w : World) (h1 : -9223372036854775808 ≤ n) (h2 : n ≤ 9223372036854775807) (hr : Rd w v (ivs .i64 L)) (hc : w.cell? ⟨B, 0, none⟩ = some (.int .i64 n)) :
    Calls Try.prog 56 #[v, .func (.func 54) #[] #[.pointer (some ⟨B, 0, none⟩)]] w (IdxP L n w) := by
  rcases hr.icases with ⟨a, cap, rfl, rfl⟩ | ⟨b, off, cap, hpos, hc1, hc2, rfl, hb, hcell⟩
  · have HI := Lib.hid (show IdxP [] n w (.returned (.int .i64 (-1))) w from ⟨-1, rfl, rfl, rfl⟩)
    clear hr
    go_enter Try.func56, Try.ntmps56
    go_wp2_with fail
    go_loopg [8] 0 (fun q i wr => i = .int .i64 0 ∧ wr = w)
    case atStart => exact ⟨rfl, rfl⟩
    case round =>
      obtain ⟨rfl, rfl⟩ := hrel
      go_wp2_with fail
      go_ret
      exact HI.out
  · have F := fun a => pfun_any a n B w h1 h2 hc
    have eP : ∀ e w', IdxP L n w e w' ↔ ∃ i : Int, e = .returned (.int .i64 i) ∧ decide (0 ≤ i) = !allOf L n ∧ w = w' := fun _ _ => Iff.rfl
    have A := fun h => @allOf_of L n h
    have N := fun i hi h => @allOf_not L n i hi h
    obtain ⟨k, hk⟩ : ∃ k, k = L.length := ⟨_, rfl⟩
    rw [← hk] at hpos hc1 hcell A N
    have hkm : k ≤ 9223372036854775807 := by unfold maxLen at hc2; omega
    have HF := Lib.hid F
    have HC := Lib.hid hcell
    have HA := Lib.hid A
    have HN := Lib.hid N
    have HE := Lib.hid eP
    rw [← hk]
    clear F hcell hk hr A N eP h1 h2
    go_enter Try.func56, Try.ntmps56
    go_wp2_with fail
    go_loopg [8] k (fun q i wr => ∃ r : Nat, r + q = k ∧ (∀ i, i < r → isOf (L.getD i 0) n = true) ∧ i = .int .i64 (r : Int) ∧ wr = w)
    case atStart => exact ⟨0, by omega, fun i h => by omega, rfl, rfl⟩
    case round =>
      obtain ⟨r, hr, hall, rfl, rfl⟩ := hrel
      have HALL := Lib.hid hall
      clear hall
      by_cases hrk : r < k
      · have c0 := HC.out r hrk
        have hF := HF.out (L.getD r 0)
        by_cases he : isOf (L.getD r 0) n = true
        · rw [he] at hF
          have HE1 := Lib.hid he
          clear he
          obtain ⟨z, hz⟩ : ∃ z, z = L.getD r 0 := ⟨_, rfl⟩
          rw [← hz] at hF c0
          have HZ := Lib.hid hz
          have HF1 := Lib.hid hF
          clear hF hz
          go_wp2_with fail
          refine (HF1.out).mono ?_
          rintro e w' ⟨rfl, rfl⟩
          go_wp2_with fail
          go_roundg (gk - 1)
          case measure => omega
          case rel =>
            refine ⟨r + 1, by omega, ?_, by go_num, rfl⟩
            intro i hi
            rcases Nat.lt_or_ge i r with h | h
            · exact HALL.out i h
            · obtain rfl : i = r := by omega
              exact HE1.out
        · have hf : isOf (L.getD r 0) n = false := by rw [← Bool.not_eq_true]; exact he
          rw [hf] at hF
          have HE2 := Lib.hid ((HE.out (.returned (.int .i64 (r : Int))) wr).2 ⟨r, rfl, by rw [HN.out r hrk hf, decide_eq_true (by omega)]; rfl, rfl⟩)
          clear he hf
          obtain ⟨z, hz⟩ : ∃ z, z = L.getD r 0 := ⟨_, rfl⟩
          rw [← hz] at hF c0
          have HF1 := Lib.hid hF
          clear hF hz
          go_wp2_with fail
          refine (HF1.out).mono ?_
          rintro e w' ⟨rfl, rfl⟩
          go_wp2_with fail
          go_ret
          exact HE2.out
      · obtain rfl : r = k := by omega
        have HE2 := Lib.hid ((HE.out (.returned (.int .i64 (-1))) wr).2 ⟨-1, rfl, by rw [HA.out HALL.out]; rfl, rfl⟩)
        go_wp2_with fail
        go_ret
        exact HE2.out
set_option maxRecDepth 100000 in
set_option maxHeartbeats 1000000 in
theorem pcontains_any (n : Int) (B : Nat) (v : Value) (L : List Int) (w : World) (h1 : -9223372036854775808 ≤ n) (h2 : n ≤ 9223372036854775807) (hr : Rd w v (ivs .i64 L)) (hc : w.cell? ⟨B, 0, none⟩ = some (.int .i64 n)) :
    Calls Try.prog 53 #[v, .func (.func 54) #[] #[.pointer (some ⟨B, 0, none⟩)]] w fun e w' => e = .returned (.bool (!allOf L n)) ∧ w = w' := by
  have HI := Lib.hid (pindex_any n B v L w h1 h2 hr hc)
  clear hr hc h1 h2
  obtain ⟨b, hb⟩ : ∃ b, b = !allOf L n := ⟨_, rfl⟩
  have HB := Lib.hid hb
  rw [← hb]
  clear hb
  go_enter Try.func53, Try.ntmps53
  go_wp2_with fail
  refine (HI.out).mono ?_
  rintro e w' ⟨i, rfl, hi, rfl⟩
  rw [← HB.out] at hi
  go_wp2_with fail
  go_ret
  exact ⟨rfl, rfl⟩
end Go.Proofs.Ytbjfacfphgnhpaa
