/- Walks: PlanGaps. -/
import Derived.Test.YtbjfacfphgnhpaaPlanPlaces
import Derived.Test.YtbjfacfphgnhpaaPlanRFar
namespace Go.Proofs.Ytbjfacfphgnhpaa
open Go.RowKit WalkM FloatM
set_option linter.unusedVariables false
theorem ivs_getD {L : List Int} {i : Nat} (h : i < L.length) : (ivs .i64 L)[i]? = some (.int .i64 (L.getD i 0)) := by simp [ivs, h]
set_option maxRecDepth 100000 in
set_option maxHeartbeats 4000000 in
theorem planGaps_walk (x : Int) (v : Value) (L : List Int) (n : Int) (w : World) (hx : -9223372036854775808 ≤ x ∧ x ≤ 9223372036854775807) (hwf : ∀ n ∈ L, (Lit.int .i64 n).wf = true) (hr : Rd w v (ivs .i64 L)) (hn : -9223372036854775808 ≤ n ∧ n ≤ 9223372036854775807) :
    Calls Try.prog 4 #[.int .i64 x, v, .int .i64 n] w fun e w' => e = .returned (.bool true) ∧ Below w.heap.size w w' := by
  have HA := Lib.hid (fun w => alive15 w)
  have G := fun y w => gap_any x y n w hn.1 hn.2
  have RG := fun y w => rgap_any x y n w hn.1 hn.2
  have F := fun w (h : Rd w v (ivs .i64 L)) => far_any x n v L w hn.1 hn.2 h
  have RF := fun w (h : Rd w v (ivs .i64 L)) => rfar_any x n v L w hn.1 hn.2 h
  unfold GapP at G RG
  unfold FarP at F RF
  obtain ⟨fz, hfz⟩ : ∃ z, z = farZ x n L := ⟨_, rfl⟩
  obtain ⟨fo, hfo⟩ : ∃ z, z = farOk x n L := ⟨_, rfl⟩
  rw [← hfz, ← hfo] at F RF
  have hget := fun (i : Nat) (h : i < L.length) => ivs_getD (L := L) h
  obtain ⟨a, cap, rfl, hc1, hc2, _⟩ := id hr
  obtain ⟨k, hk⟩ : ∃ k, k = L.length := ⟨_, rfl⟩
  rw [ivs_len', ← hk] at hc1 hr F RF ⊢
  rw [← hk] at hget
  have hkm : k ≤ 9223372036854775807 := by unfold maxLen at hc2; omega
  have HG := Lib.hid G
  have HRG := Lib.hid RG
  have HF := Lib.hid F
  have HRF := Lib.hid RF
  have HR := Lib.hid hr
  have HGET := Lib.hid hget
  clear G RG F RF hr hget hfz hfo hk hwf hx hn hc1 hc2
  have fb : (fo == fo) = true := by simp
  have fz' : (fz == fz) = true := by simp
  by_cases h30 : k ≤ 30
  · go_enter Try.func4, Try.ntmps4
    go_wp2_with fail
    refine (HA.out _).mono ?_
    rintro e w1 ⟨rfl, hb1⟩
    have HB1 := Lib.hid hb1
    clear hb1
    go_wp2_with fail
    go_loopg [7] k (fun q i wr => ∃ r : Nat, r + q = k ∧ i = .int .i64 (r : Int) ∧ Below w.heap.size w wr)
    case atStart => exact ⟨0, by omega, rfl, HB1.out⟩
    case round =>
      obtain ⟨r, hr, rfl, hbw⟩ := hrel
      have HBW := Lib.hid hbw
      by_cases hrk : r < k
      · obtain ⟨b1, o1, rfl, hb, c1⟩ := HR.out.get (HGET.out r hrk)
        have c0 := Eq.trans (hbw.cell (by exact hb)) c1
        have hG := HG.out (L.getD r 0)
        have hRG := HRG.out (L.getD r 0)
        obtain ⟨z, hz⟩ : ∃ z, z = L.getD r 0 := ⟨_, rfl⟩
        rw [← hz] at c0 c1 hG hRG
        obtain ⟨o, ho⟩ : ∃ o, o = (isOf x n && isOf z n) := ⟨_, rfl⟩
        rw [← ho] at hG hRG
        obtain ⟨g, hg⟩ : ∃ o, o = gapZ x z n := ⟨_, rfl⟩
        rw [← hg] at hG hRG
        have HG1 := Lib.hid hG
        have HRG1 := Lib.hid hRG
        have HC := Lib.hid c1
        have e1 : (o != o) = false := by simp
        have e2 : (g != g) = false := by simp
        clear hG hRG hz ho hg c1 hbw
        go_wp2_with fail
        refine (HG1.out _).mono ?_
        rintro e w3 ⟨rfl, hb3⟩
        have HB3 := Lib.hid (Below.next HBW.out hb3)
        have c2 := Eq.trans (HB3.out.cell (by exact hb)) HC.out
        clear hb3 c0
        go_wp2_with fail
        refine (HRG1.out _).mono ?_
        rintro e w4 ⟨rfl, hb4⟩
        have HB4 := Lib.hid (Below.next HB3.out hb4)
        clear hb4 c2
        go_wp2_with fail
        go_roundg (gk - 1)
        case measure => omega
        case rel => exact ⟨r + 1, by omega, by go_num, HB4.out⟩
      · obtain rfl : r = k := by omega
        have R1 := Lib.hid (HR.out.below HBW.out (Nat.le_refl _))
        clear hbw
        go_wp2_with fail
        refine (HF.out _ R1.out).mono ?_
        rintro e w3 ⟨rfl, hb3⟩
        have HB3 := Lib.hid (Below.next HBW.out hb3)
        have R3 := Lib.hid (HR.out.below HB3.out (Nat.le_refl _))
        clear hb3
        go_wp2_with fail
        refine (HRF.out _ R3.out).mono ?_
        rintro e w4 ⟨rfl, hb4⟩
        have HB4 := Lib.hid (Below.next HB3.out hb4)
        clear hb4
        go_wp2_with fail
        go_ret
        exact ⟨rfl, HB4.out⟩
  · have h31 : 30 < k := by omega
    go_enter Try.func4, Try.ntmps4
    go_wp2_with fail
    refine (HA.out _).mono ?_
    rintro e w1 ⟨rfl, hb1⟩
    have HB1 := Lib.hid hb1
    clear hb1
    go_wp2_with fail
    go_ret
    exact ⟨rfl, HB1.out⟩
end Go.Proofs.Ytbjfacfphgnhpaa
