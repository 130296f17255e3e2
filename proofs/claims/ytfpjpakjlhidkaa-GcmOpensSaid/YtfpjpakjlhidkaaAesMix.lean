/- Walks: aes.mix: a column, in place. -/
import Derived.Test.YtfpjpakjlhidkaaAesExpand
namespace Go.Proofs.Ytfpjpakjlhidkaa
open Go.RowKit AesM

namespace AesM
def mixv (N : List Nat) (off i : Nat) : Nat :=
  let c := fun j => N.getD (off + j) 0
  c i ^^^ (c 0 ^^^ c 1 ^^^ c 2 ^^^ c 3 ^^^ tms (c i ^^^ c ((i + 1) % 4)) 2)
def mixN (N : List Nat) (off : Nat) : Nat → List Nat
  | 0 => N
  | i + 1 => (mixN N off i).set (off + i) (mixv N off i)
theorem mixN_len (N : List Nat) (off : Nat) : ∀ i, (mixN N off i).length = N.length := by
  intro i
  induction i with
  | zero => rfl
  | succ i ih => simp [mixN, ih]
theorem mixN_get (N : List Nat) (off : Nat) : ∀ i j, off + i ≤ j → (mixN N off i).getD j 0 = N.getD j 0 := by
  intro i
  induction i with
  | zero => intro j _; rfl
  | succ i ih =>
    intro j hj
    have := ih j (by omega)
    simp only [mixN, List.getD_eq_getElem?_getD] at this ⊢
    rw [List.getElem?_set_ne (by omega)]
    exact this
theorem mixv_lt {N : List Nat} (h : ∀ n ∈ N, n < 256) (off i : Nat) : mixv N off i < 256 := by
  have g := fun i => getD_lt h (by omega) i
  unfold mixv
  simp only
  exact xor_lt (g _) (xor_lt (xor_lt (xor_lt (xor_lt (g _) (g _)) (g _)) (g _)) (tms_lt _ (xor_lt (g _) (g _))))
theorem mixN_lt {N : List Nat} (h : ∀ n ∈ N, n < 256) (off : Nat) : ∀ i, ∀ n ∈ mixN N off i, n < 256 := by
  intro i
  induction i with
  | zero => exact h
  | succ i ih =>
    intro n hn
    rcases List.mem_or_eq_of_mem_set hn with h' | h'
    · exact ih n h'
    · subst h'; exact mixv_lt h off i
end AesM

set_option maxRecDepth 100000 in
set_option maxHeartbeats 1000000 in
theorem mix_any (g off cap n capn B : Nat) (N : List Nat) (w : World) (h : Own w B 5 (.slice (some ⟨g, 0, none⟩) n capn) (bvs N)) (ho : off + 4 ≤ N.length) (_hc : 4 ≤ cap) (hN : ∀ x ∈ N, x < 256) :
    Calls Try.prog 31 #[.slice (some ⟨g, off, none⟩) 4 cap] w fun e w' => e = .returned (.tuple #[]) ∧ Own w' B 5 (.slice (some ⟨g, 0, none⟩) n capn) (bvs (mixN N off 4)) ∧ Below B w w' := by
  have hB : B ≤ g := (World.ownsRow.lt h g rfl).1
  have cells : ∀ (wx : World) (M : List Nat), Own wx B 5 (.slice (some ⟨g, 0, none⟩) n capn) (bvs M) → M.length = N.length → ∀ i, i < 4 → wx.cell? ⟨g, off + i, none⟩ = some (.int .u8 ((M.getD (off + i) 0 : Nat) : Int)) := by
    intro wx M hM hl i hi
    exact hM.at.1 _ _ (bvs_getD (by omega))
  have q0 := cells w N h rfl 0 (by omega)
  have q1 := cells w N h rfl 1 (by omega)
  have q2 := cells w N h rfl 2 (by omega)
  have q3 := cells w N h rfl 3 (by omega)
  have gg := fun i => getD_lt hN (by omega) i
  obtain ⟨c0, e0⟩ : ∃ c, c = N.getD (off + 0) 0 := ⟨_, rfl⟩
  obtain ⟨c1, e1⟩ : ∃ c, c = N.getD (off + 1) 0 := ⟨_, rfl⟩
  obtain ⟨c2, e2⟩ : ∃ c, c = N.getD (off + 2) 0 := ⟨_, rfl⟩
  obtain ⟨c3, e3⟩ : ∃ c, c = N.getD (off + 3) 0 := ⟨_, rfl⟩
  have b0 : c0 < 256 := by rw [e0]; exact gg _
  have b1 : c1 < 256 := by rw [e1]; exact gg _
  have b2 : c2 < 256 := by rw [e2]; exact gg _
  have b3 : c3 < 256 := by rw [e3]; exact gg _
  rw [← e0, Nat.add_zero] at q0
  rw [← e1] at q1
  rw [← e2] at q2
  rw [← e3] at q3
  have H0 := Lib.hid e0
  have H1 := Lib.hid e1
  have H2 := Lib.hid e2
  have H3 := Lib.hid e3
  have HO := Lib.hid h
  have HC := Lib.hid cells
  clear e0 e1 e2 e3 h cells gg
  have x1 := u8_xor_nat c0 c1 b0 b1
  have x2 := u8_xor_nat (c0 ^^^ c1) c2 (xor_lt b0 b1) b2
  have x3 := u8_xor_nat (c0 ^^^ c1 ^^^ c2) c3 (xor_lt (xor_lt b0 b1) b2) b3
  obtain ⟨A, eA⟩ : ∃ A, A = c0 ^^^ c1 ^^^ c2 ^^^ c3 := ⟨_, rfl⟩
  have bA : A < 256 := by rw [eA]; exact xor_lt (xor_lt (xor_lt b0 b1) b2) b3
  rw [← eA] at x3
  have HA := Lib.hid eA
  clear eA
  go_enter Try.func31, Try.ntmps31
  go_wp2_with fail
  go_quiet (fail)
  go_wp2_with fail
  clear x1 x2 x3 q0 q1 q2 q3
  go_loopg [24] 4 (fun k i wr => ∃ i' : Nat, i' + k = 4 ∧ i = .int .i64 i' ∧ Own wr B 5 (.slice (some ⟨g, 0, none⟩) n capn) (bvs (mixN N off i')) ∧ Below B w wr)
  case atStart => exact ⟨0, rfl, rfl, HO.out.drewN _, below_drewN' (Below.refl _ _) _⟩
  case round =>
    obtain ⟨i, hi, rfl, hown, hbel⟩ := hrel
    have qi := HC.out wr _ hown (mixN_len N off i)
    have hfz := hown.at.2
    have HOW := Lib.hid hown
    have HBW := Lib.hid hbel
    have HQ := Lib.hid qi
    have HFZ := Lib.hid hfz
    have HI := Lib.hid hi
    clear hown hbel qi hfz
    obtain rfl | rfl | rfl | rfl | rfl : i = 0 ∨ i = 1 ∨ i = 2 ∨ i = 3 ∨ i = 4 := by omega
    · have q := HQ.out 0 (by omega)
      rw [mixN_get N off 0 _ (by omega), ← H0.out, Nat.add_zero] at q
      have qn := HQ.out 1 (by omega)
      rw [mixN_get N off 0 _ (by omega), ← H1.out] at qn
      have fz := HFZ.out (off + 0)
      rw [Nat.add_zero] at fz
      have y1 := u8_xor_nat c0 c1 b0 b1
      have y2 := u8_xor_nat A (tms (c0 ^^^ c1) 2) bA (tms_lt _ (xor_lt b0 b1))
      have y3 := u8_xor_nat c0 (A ^^^ tms (c0 ^^^ c1) 2) b0 (xor_lt bA (tms_lt _ (xor_lt b0 b1)))
      clear hi
      go_wp2_with fail
      refine wp_region_still_tail 15 (by kernel_rfl) (by kernel_rfl) ?_
      simp only [List.take_succ_cons, List.take_zero, List.drop_succ_cons, List.drop_zero]
      repeat still_step
      still_call ((times_any (c0 ^^^ c1) 2 (xor_lt b0 b1) (by omega) _).mono (by rintro e w' ⟨rfl, rfl⟩; exact ⟨rfl, rfl⟩))
      repeat still_step
      refine wpStill_nil ?_
      change wpList _ _ _ _ _ wr.drew
      go_wp2_with fail
      go_roundg 3
      case measure => have := HI.out; omega
      case rel =>
        refine ⟨1, rfl, rfl, ?_, ?_⟩
        · have hv : mixv N off 0 = c0 ^^^ (A ^^^ tms (c0 ^^^ c1) 2) := by
            have z0 := H0.out
            have z1 := H1.out
            have z2 := H2.out
            have z3 := H3.out
            rw [HA.out, z0, z1, z2, z3]
            rfl
          rw [mixN, hv, bvs_set]
          exact (HOW.out.set _ _).drew
        · exact (HBW.out.setCell hB _).drew
    · have q := HQ.out 1 (by omega)
      rw [mixN_get N off 1 _ (by omega), ← H1.out] at q
      have qn := HQ.out 2 (by omega)
      rw [mixN_get N off 1 _ (by omega), ← H2.out] at qn
      have fz := HFZ.out (off + 1)

      have y1 := u8_xor_nat c1 c2 b1 b2
      have y2 := u8_xor_nat A (tms (c1 ^^^ c2) 2) bA (tms_lt _ (xor_lt b1 b2))
      have y3 := u8_xor_nat c1 (A ^^^ tms (c1 ^^^ c2) 2) b1 (xor_lt bA (tms_lt _ (xor_lt b1 b2)))
      clear hi
      go_wp2_with fail
      refine wp_region_still_tail 15 (by kernel_rfl) (by kernel_rfl) ?_
      simp only [List.take_succ_cons, List.take_zero, List.drop_succ_cons, List.drop_zero]
      repeat still_step
      still_call ((times_any (c1 ^^^ c2) 2 (xor_lt b1 b2) (by omega) _).mono (by rintro e w' ⟨rfl, rfl⟩; exact ⟨rfl, rfl⟩))
      repeat still_step
      refine wpStill_nil ?_
      change wpList _ _ _ _ _ wr.drew
      go_wp2_with fail
      go_roundg 2
      case measure => have := HI.out; omega
      case rel =>
        refine ⟨2, rfl, rfl, ?_, ?_⟩
        · have hv : mixv N off 1 = c1 ^^^ (A ^^^ tms (c1 ^^^ c2) 2) := by
            have z0 := H0.out
            have z1 := H1.out
            have z2 := H2.out
            have z3 := H3.out
            rw [HA.out, z0, z1, z2, z3]
            rfl
          rw [mixN, hv, bvs_set]
          exact (HOW.out.set _ _).drew
        · exact (HBW.out.setCell hB _).drew
    · have q := HQ.out 2 (by omega)
      rw [mixN_get N off 2 _ (by omega), ← H2.out] at q
      have qn := HQ.out 3 (by omega)
      rw [mixN_get N off 2 _ (by omega), ← H3.out] at qn
      have fz := HFZ.out (off + 2)

      have y1 := u8_xor_nat c2 c3 b2 b3
      have y2 := u8_xor_nat A (tms (c2 ^^^ c3) 2) bA (tms_lt _ (xor_lt b2 b3))
      have y3 := u8_xor_nat c2 (A ^^^ tms (c2 ^^^ c3) 2) b2 (xor_lt bA (tms_lt _ (xor_lt b2 b3)))
      clear hi
      go_wp2_with fail
      refine wp_region_still_tail 15 (by kernel_rfl) (by kernel_rfl) ?_
      simp only [List.take_succ_cons, List.take_zero, List.drop_succ_cons, List.drop_zero]
      repeat still_step
      still_call ((times_any (c2 ^^^ c3) 2 (xor_lt b2 b3) (by omega) _).mono (by rintro e w' ⟨rfl, rfl⟩; exact ⟨rfl, rfl⟩))
      repeat still_step
      refine wpStill_nil ?_
      change wpList _ _ _ _ _ wr.drew
      go_wp2_with fail
      go_roundg 1
      case measure => have := HI.out; omega
      case rel =>
        refine ⟨3, rfl, rfl, ?_, ?_⟩
        · have hv : mixv N off 2 = c2 ^^^ (A ^^^ tms (c2 ^^^ c3) 2) := by
            have z0 := H0.out
            have z1 := H1.out
            have z2 := H2.out
            have z3 := H3.out
            rw [HA.out, z0, z1, z2, z3]
            rfl
          rw [mixN, hv, bvs_set]
          exact (HOW.out.set _ _).drew
        · exact (HBW.out.setCell hB _).drew
    · have q := HQ.out 3 (by omega)
      rw [mixN_get N off 3 _ (by omega), ← H3.out] at q
      have fz := HFZ.out (off + 3)

      have y1 := u8_xor_nat c3 c0 b3 b0
      have y2 := u8_xor_nat A (tms (c3 ^^^ c0) 2) bA (tms_lt _ (xor_lt b3 b0))
      have y3 := u8_xor_nat c3 (A ^^^ tms (c3 ^^^ c0) 2) b3 (xor_lt bA (tms_lt _ (xor_lt b3 b0)))
      clear hi
      go_wp2_with fail
      refine wp_region_still_tail 15 (by kernel_rfl) (by kernel_rfl) ?_
      simp only [List.take_succ_cons, List.take_zero, List.drop_succ_cons, List.drop_zero]
      repeat still_step
      still_call ((times_any (c3 ^^^ c0) 2 (xor_lt b3 b0) (by omega) _).mono (by rintro e w' ⟨rfl, rfl⟩; exact ⟨rfl, rfl⟩))
      repeat still_step
      refine wpStill_nil ?_
      change wpList _ _ _ _ _ wr.drew
      go_wp2_with fail
      go_roundg 0
      case measure => have := HI.out; omega
      case rel =>
        refine ⟨4, rfl, rfl, ?_, ?_⟩
        · have hv : mixv N off 3 = c3 ^^^ (A ^^^ tms (c3 ^^^ c0) 2) := by
            have z0 := H0.out
            have z1 := H1.out
            have z2 := H2.out
            have z3 := H3.out
            rw [HA.out, z0, z1, z2, z3]
            rfl
          rw [mixN, hv, bvs_set]
          exact (HOW.out.set _ _).drew
        · exact (HBW.out.setCell hB _).drew
    · go_wp2_with fail
      go_end0
      exact ⟨rfl, HOW.out, HBW.out⟩
end Go.Proofs.Ytfpjpakjlhidkaa
