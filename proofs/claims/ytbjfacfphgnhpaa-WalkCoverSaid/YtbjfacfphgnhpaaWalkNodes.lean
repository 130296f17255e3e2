/- Walks: WalkNodes. -/
import Derived.Test.YtbjfacfphgnhpaaWalkAlive
namespace Go.Proofs.Ytbjfacfphgnhpaa
open Go.RowKit WalkM
set_option linter.unusedVariables false
theorem span_nat {m : Nat} (hm : m ≤ 131070) : (spanZ m).1 = (plo m (lev m) : Int) / 2 ∧ (spanZ m).2 = (phi m (lev m) : Int) / 2 := by
  have h1 : isNode (m : Int) = true := by rw [isNode, decide_eq_true]; omega
  have hs := anc_self (lev_is hm)
  rw [anc_plo] at hs
  have he : phi m (lev m) = plo m (lev m) + (2 ^ (lev m + 1) - 2) := rfl
  rw [Nat.pow_succ] at he
  have hp := pow_pos' (lev m)
  rw [spanZ, if_pos h1, wide_nat hm]
  constructor
  · show ((m : Int) - _) / 2 = _
    congr 1
    omega
  · show ((m : Int) + _) / 2 = _
    congr 1
    omega
set_option maxRecDepth 100000 in
set_option maxHeartbeats 4000000 in
theorem walkNodes_walk (x : Int) (hx : -9223372036854775808 ≤ x ∧ x ≤ 9223372036854775807) (w : World) :
    Calls Try.prog 10 #[.int .i64 x] w fun e w' => e = .returned (.bool true) ∧ Below w.heap.size w w' := by
  have HA := Lib.hid (fun w => alive14 w)
  have K := fun w => kids_any x w
  have SP := fun w => span_any x w
  have RF := fun w => rfits_any x w
  have F := fun w => fits_any x w hx.1 hx.2
  have L := fun w => level_any x w
  have RL := fun w => rlevel_any x w
  have LE := fun w => left_any x w
  have RI := fun w => right_any x w
  have RO := fun w => root_any x w hx.1 hx.2
  obtain ⟨l, hl⟩ : ∃ l, l = levZ x := ⟨_, rfl⟩
  obtain ⟨a, ha⟩ : ∃ l, l = leftZ x := ⟨_, rfl⟩
  obtain ⟨b, hb⟩ : ∃ l, l = rightZ x := ⟨_, rfl⟩
  rw [← hl] at L RL
  rw [← ha] at LE K
  rw [← hb] at RI K
  have HK := Lib.hid K
  have HL := Lib.hid L
  have HRL := Lib.hid RL
  have HLE := Lib.hid LE
  have HRI := Lib.hid RI
  clear K L RL LE RI hl ha hb
  by_cases hn : isNode x = true
  · have hn' := of_decide_eq_true hn
    obtain ⟨m, rfl⟩ : ∃ m : Nat, x = (m : Int) := ⟨x.toNat, by omega⟩
    have hm : m ≤ 131070 := by omega
    have D := fun w => last_most m hm w
    have s1 := span_nat hm
    have hph := phi_le (x := m) (d := 16) (by omega) (lev_le hm)
    have hpl : plo m (lev m) ≤ phi m (lev m) := by unfold phi; omega
    rw [s1.1, s1.2] at SP
    obtain ⟨lo, hlo⟩ : ∃ a, a = plo m (lev m) := ⟨_, rfl⟩
    obtain ⟨hi, hhi⟩ : ∃ a, a = phi m (lev m) := ⟨_, rfl⟩
    rw [← hlo, ← hhi] at D SP
    rw [← hhi] at hph
    rw [← hlo, ← hhi] at hpl
    have hlo17 : lo ≤ 131070 := by omega
    have hhi17 : hi ≤ 131070 := by omega
    have HD := Lib.hid D
    have HSP := Lib.hid SP
    clear D SP s1 hlo hhi hn hn' hx hph hpl
    by_cases hf : fits (m : Int).toNat = true
    · have er : rootZ (m : Int) = (m : Int) - 1 := by rw [rootZ, if_pos hf]
      have hm1 := fits_small hf
      have hm2 : 1 ≤ m := by omega
      rw [hf] at F RF
      rw [er] at RO
      have HF := Lib.hid F
      have HRF := Lib.hid RF
      have HRO := Lib.hid RO
      clear F RF RO er hf hm1
      go_enter Try.func10, Try.ntmps10
      go_wp2_with fail
      refine (HA.out _).mono ?_
      rintro e w1 ⟨rfl, hb⟩
      have HB1 := Lib.hid hb
      clear hb
      go_wp2_with fail
      refine (HK.out _).mono ?_
      rintro e w2 ⟨rfl, hb⟩
      have HB2 := Lib.hid (Below.next HB1.out hb)
      clear hb
      go_wp2_with fail
      refine (HSP.out _).mono ?_
      rintro e w' ⟨rfl, rfl⟩
      go_wp2_with fail
      refine (HD.out _).mono ?_
      rintro e w3 ⟨rfl, hb⟩
      have HB3 := Lib.hid (Below.next HB2.out hb)
      have hsz := HB3.out.size
      clear hb
      go_wp2_with fail
      go_quiet (fail)
      generalize (lo : Int) / 2 = p
      generalize (hi : Int) / 2 = q
      go_wp2_with fail
      refine (HRF.out _).mono ?_
      rintro e w' ⟨rfl, rfl⟩
      go_wp2_with fail
      refine (HL.out _).mono ?_
      rintro e w' ⟨rfl, rfl⟩
      go_wp2_with fail
      refine (HRL.out _).mono ?_
      rintro e w4 ⟨rfl, hb⟩
      have HB4 := Lib.hid (Below.next (Below.draws (HB3.out.alloc hsz _) _) hb)
      clear hb
      go_wp2_with fail
      refine (HLE.out _).mono ?_
      rintro e w' ⟨rfl, rfl⟩
      go_wp2_with fail
      refine (HRI.out _).mono ?_
      rintro e w' ⟨rfl, rfl⟩
      go_wp2_with fail
      refine (HF.out _).mono ?_
      rintro e w' ⟨rfl, rfl⟩
      go_wp2_with fail
      refine (HRF.out _).mono ?_
      rintro e w' ⟨rfl, rfl⟩
      go_wp2_with fail
      refine (HRO.out _).mono ?_
      rintro e w' ⟨rfl, rfl⟩
      go_wp2_with fail
      go_ret
      exact ⟨rfl, HB4.out⟩
    · have hf' : fits (m : Int).toNat = false := by rw [← Bool.not_eq_true]; exact hf
      have er : rootZ (m : Int) = -1 := by rw [rootZ, if_neg hf]
      rw [hf'] at F RF
      rw [er] at RO
      have HF := Lib.hid F
      have HRF := Lib.hid RF
      have HRO := Lib.hid RO
      clear F RF RO er hf hf'
      go_enter Try.func10, Try.ntmps10
      go_wp2_with fail
      refine (HA.out _).mono ?_
      rintro e w1 ⟨rfl, hb⟩
      have HB1 := Lib.hid hb
      clear hb
      go_wp2_with fail
      refine (HK.out _).mono ?_
      rintro e w2 ⟨rfl, hb⟩
      have HB2 := Lib.hid (Below.next HB1.out hb)
      clear hb
      go_wp2_with fail
      refine (HSP.out _).mono ?_
      rintro e w' ⟨rfl, rfl⟩
      go_wp2_with fail
      refine (HD.out _).mono ?_
      rintro e w3 ⟨rfl, hb⟩
      have HB3 := Lib.hid (Below.next HB2.out hb)
      have hsz := HB3.out.size
      clear hb
      go_wp2_with fail
      go_quiet (fail)
      generalize (lo : Int) / 2 = p
      generalize (hi : Int) / 2 = q
      go_wp2_with fail
      refine (HRF.out _).mono ?_
      rintro e w' ⟨rfl, rfl⟩
      go_wp2_with fail
      refine (HL.out _).mono ?_
      rintro e w' ⟨rfl, rfl⟩
      go_wp2_with fail
      refine (HRL.out _).mono ?_
      rintro e w4 ⟨rfl, hb⟩
      have HB4 := Lib.hid (Below.next (Below.draws (HB3.out.alloc hsz _) _) hb)
      clear hb
      go_wp2_with fail
      refine (HLE.out _).mono ?_
      rintro e w' ⟨rfl, rfl⟩
      go_wp2_with fail
      refine (HRI.out _).mono ?_
      rintro e w' ⟨rfl, rfl⟩
      go_wp2_with fail
      refine (HF.out _).mono ?_
      rintro e w' ⟨rfl, rfl⟩
      go_wp2_with fail
      refine (HRF.out _).mono ?_
      rintro e w' ⟨rfl, rfl⟩
      go_wp2_with fail
      refine (HRO.out _).mono ?_
      rintro e w' ⟨rfl, rfl⟩
      go_wp2_with fail
      go_ret
      exact ⟨rfl, HB4.out⟩
  · have hn' : isNode x = false := by rw [← Bool.not_eq_true]; exact hn
    have D := fun w => last_none x hn' w
    have hf : fits x.toNat = false := by
      rw [← Bool.not_eq_true]
      intro h
      have := fits_small h
      have := of_decide_eq_false hn'
      omega
    have e1 : spanZ x = (-1, -1) := by rw [spanZ, if_neg hn]
    have er : rootZ x = -1 := by rw [rootZ, if_neg (by rw [hf]; simp)]
    rw [e1] at SP
    rw [hf] at F RF
    rw [er] at RO
    have HD := Lib.hid D
    have HSP := Lib.hid SP
    have HF := Lib.hid F
    have HRF := Lib.hid RF
    have HRO := Lib.hid RO
    clear D SP F RF RO er hf e1 hn hn' hx
    go_enter Try.func10, Try.ntmps10
    go_wp2_with fail
    refine (HA.out _).mono ?_
    rintro e w1 ⟨rfl, hb⟩
    have HB1 := Lib.hid hb
    clear hb
    go_wp2_with fail
    refine (HK.out _).mono ?_
    rintro e w2 ⟨rfl, hb⟩
    have HB2 := Lib.hid (Below.next HB1.out hb)
    clear hb
    go_wp2_with fail
    refine (HSP.out _).mono ?_
    rintro e w' ⟨rfl, rfl⟩
    go_wp2_with fail
    refine (HD.out _).mono ?_
    rintro e w3 ⟨rfl, hb⟩
    have HB3 := Lib.hid (Below.next HB2.out hb)
    have hsz := HB3.out.size
    clear hb
    go_wp2_with fail
    refine (HRF.out _).mono ?_
    rintro e w' ⟨rfl, rfl⟩
    go_wp2_with fail
    refine (HL.out _).mono ?_
    rintro e w' ⟨rfl, rfl⟩
    go_wp2_with fail
    refine (HRL.out _).mono ?_
    rintro e w4 ⟨rfl, hb⟩
    have HB4 := Lib.hid (Below.next (HB3.out.alloc hsz _) hb)
    clear hb
    go_wp2_with fail
    refine (HLE.out _).mono ?_
    rintro e w' ⟨rfl, rfl⟩
    go_wp2_with fail
    refine (HRI.out _).mono ?_
    rintro e w' ⟨rfl, rfl⟩
    go_wp2_with fail
    refine (HF.out _).mono ?_
    rintro e w' ⟨rfl, rfl⟩
    go_wp2_with fail
    refine (HRF.out _).mono ?_
    rintro e w' ⟨rfl, rfl⟩
    go_wp2_with fail
    refine (HRO.out _).mono ?_
    rintro e w' ⟨rfl, rfl⟩
    go_wp2_with fail
    go_ret
    exact ⟨rfl, HB4.out⟩
end Go.Proofs.Ytbjfacfphgnhpaa
