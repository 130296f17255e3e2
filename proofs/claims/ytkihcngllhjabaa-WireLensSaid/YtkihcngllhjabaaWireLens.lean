/- Walks: WireLens. -/
import Derived.Test.YtkihcngllhjabaaWireAlive
namespace Go.Proofs.Ytkihcngllhjabaa
open Go.RowKit WireM
set_option linter.unusedVariables false
theorem same_self (v v' : Value) (L : List Nat) (w : World) (h : Rd w v (bvs L)) (h' : Rd w v' (bvs L)) (hL : ∀ n ∈ L, n < 256) :
    Calls Try.prog 16 #[v, v'] w fun e w' => e = .returned (.bool true) ∧ ∃ n, w' = w.drewN n := by
  refine (same_any v v' L L w h h' hL hL).mono ?_
  rintro e w' ⟨he, hw⟩
  rw [decide_eq_true rfl] at he
  exact ⟨he, hw⟩
set_option maxRecDepth 100000 in
set_option maxHeartbeats 4000000 in
theorem lens_big (n : Nat) (hn : n < 1073741824) (hn2 : 16384 ≤ n) (w : World) :
    Calls Try.prog 7 #[.int .i64 n] w fun e w' => e = .returned (.bool true) ∧ Below w.heap.size w w' := by
  have HA := Lib.hid (fun w => alive01 w)
  have P := fun w v h => putLen_on v [9] n w h (by simp) hn
  have R := fun w => rlen_any n w hn
  have S := fun w => lenSize_any (n : Int) w
  have hl := lenB_len hn
  have hlt := lenB_lt hn
  rw [lenS4 hn2 hn] at S hl
  obtain ⟨Q, hQ⟩ : ∃ Q, Q = lenB n := ⟨_, rfl⟩
  rw [← hQ] at P R hl hlt
  have HP := Lib.hid P
  have HR := Lib.hid R
  have HS := Lib.hid S
  have HLT := Lib.hid hlt
  have HL := Lib.hid hl
  clear P R S hl hlt hQ
  go_enter Try.func7, Try.ntmps7
  go_wp2_with fail
  refine (HA.out _).mono ?_
  rintro e w1 ⟨rfl, hb⟩
  have HB1 := Lib.hid hb
  clear hb
  go_wp2_with fail
  have hr : Rd (w1.alloc (.cells #[.int .u8 9] 5)) (.slice (some ⟨w1.heap.size, 0, none⟩) 1 1) (bvs [9]) := lit_rd (cs := #[.int .u8 9]) (L := [9]) rfl rfl (by simp)
  refine (HP.out _ _ hr).mono ?_
  rintro e w2 ⟨v2, rfl, hown, hb⟩
  have HB2 := Lib.hid (Below.next (HB1.out.alloc HB1.out.size _) hb)
  obtain ⟨g, cap, cur, rfl, _, hgl, _, hc1, hc2, _, _, hc, _⟩ := hown.out (by simp [bvs])
  have hrd := hown.rd
  have e5 : (bvs ([9] ++ Q)).length = 5 := by rw [bvs_len, List.length_append, HL.out]; rfl
  rw [e5] at hc1 hrd ⊢
  have hr2 := hrd.sub 1 5 (off' := 0 + 1) (n' := 4) (cap' := cap - 1) (by omega) (by omega) rfl rfl rfl
  have e6 : ((bvs ([9] ++ Q)).take 5).drop 1 = bvs Q := by
    rw [List.take_of_length_le (by rw [e5]; omega)]; rfl
  rw [e6] at hr2
  have HR2 := Lib.hid hr2
  clear hb hown hc hr hrd e5 e6 hr2
  go_wp2_with fail
  have hcne : ¬ cap = 1 := by omega
  have w4' : IntKind.i64.wrap 4 = 4 := by decide
  go_region_with (first
    | (go_at_call 44; refine (HR.out _).mono ?_; rintro e w3 ⟨v3, rfl, hown3, hb3⟩; have HR3 := Lib.hid hown3.rd; have HR2' := Lib.hid (HR2.out.drew.below hb3 (Nat.le_refl _)); have HB3 := Lib.hid (Below.next (Below.draws HB2.out 1) hb3); clear hown3 hb3)
    | (go_at_call 16; refine (same_self _ _ _ _ HR2'.out HR3.out HLT.out).mono ?_; rintro e w4 ⟨rfl, q, rfl⟩)
    | (go_at_call 43; refine (HS.out _).mono ?_; rintro e w5 ⟨rfl, rfl⟩))
  clear w4' hcne
  go_wp2_with fail
  go_ret
  exact ⟨rfl, Below.draws (HB3.out.alloc HB3.out.size _) _⟩
end Go.Proofs.Ytkihcngllhjabaa
