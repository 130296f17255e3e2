/- Walks: WireLens of one byte. -/
import Derived.Test.YtkihcngllhjabaaWireLens
namespace Go.Proofs.Ytkihcngllhjabaa
open Go.RowKit WireM
set_option linter.unusedVariables false
set_option maxRecDepth 100000 in
set_option maxHeartbeats 4000000 in
theorem lens_one (n : Nat) (hn2 : n < 64) (w : World) :
    Calls Try.prog 7 #[.int .i64 n] w fun e w' => e = .returned (.bool true) ∧ Below w.heap.size w w' := by
  have HA := Lib.hid (fun w => alive01 w)
  have hn : n < 1073741824 := by omega
  have P := fun w v h => putLen_on v [9] n w h (by simp) hn
  have R := fun w => rlen_any n w hn
  have S := fun w => lenSize_any (n : Int) w
  have hl := lenB_len hn
  have hlt := lenB_lt hn
  rw [lenS1 hn2] at S hl
  obtain ⟨Q, hQ⟩ : ∃ Q, Q = lenB n := ⟨_, rfl⟩
  rw [← hQ] at P R hl hlt
  have HP := Lib.hid P
  have HR := Lib.hid R
  have HS := Lib.hid S
  have HLT := Lib.hid hlt
  have HL := Lib.hid hl
  clear P R S hl hlt hQ
  go_enter Try.func7, Try.ntmps7
  go_wp2_with fail
  refine (HA.out _).mono ?_
  rintro e w1 ⟨rfl, hb⟩
  have HB1 := Lib.hid hb
  clear hb
  go_wp2_with fail
  have hr : Rd (w1.alloc (.cells #[.int .u8 9] 5)) (.slice (some ⟨w1.heap.size, 0, none⟩) 1 1) (bvs [9]) := lit_rd (cs := #[.int .u8 9]) (L := [9]) rfl rfl (by simp)
  refine (HP.out _ _ hr).mono ?_
  rintro e w2 ⟨v2, rfl, hown, hb⟩
  have HB2 := Lib.hid (Below.next (HB1.out.alloc HB1.out.size _) hb)
  obtain ⟨g, cap, cur, rfl, _, hgl, _, hc1, hc2, _, _, hc, _⟩ := hown.out (by simp [bvs])
  have hrd := hown.rd
  have e5 : (bvs ([9] ++ Q)).length = 2 := by rw [bvs_len, List.length_append, HL.out]; rfl
  rw [e5] at hc1 hrd ⊢
  have hr2 := hrd.sub 1 2 (off' := 0 + 1) (n' := 1) (cap' := cap - 1) (by omega) (by omega) rfl rfl rfl
  have e6 : ((bvs ([9] ++ Q)).take 2).drop 1 = bvs Q := by
    rw [List.take_of_length_le (by rw [e5]; omega)]; rfl
  rw [e6] at hr2
  have HR2 := Lib.hid hr2
  clear hb hown hc hr hrd e5 e6 hr2
  go_wp2_with fail
  have hcne : ¬ cap = 1 := by omega
  have w4' : IntKind.i64.wrap 1 = 1 := by decide
  go_region_with (first
    | (go_at_call 44; refine (HR.out _).mono ?_; rintro e w3 ⟨v3, rfl, hown3, hb3⟩; have HR3 := Lib.hid hown3.rd; have HR2' := Lib.hid (HR2.out.drew.below hb3 (Nat.le_refl _)); have HB3 := Lib.hid (Below.next (Below.draws HB2.out 1) hb3); clear hown3 hb3)
    | (go_at_call 16; refine (same_self _ _ _ _ HR2'.out HR3.out HLT.out).mono ?_; rintro e w4 ⟨rfl, q, rfl⟩)
    | (go_at_call 43; refine (HS.out _).mono ?_; rintro e w5 ⟨rfl, rfl⟩))
  clear w4' hcne
  go_wp2_with fail
  obtain ⟨W, hW⟩ : ∃ W, W = (w3.drewN q).alloc (.cells #[.int .u8 (64 + (n : Int) / 256 % 64), .int .u8 ((n : Int) % 256)] 5) := ⟨_, rfl⟩
  have hWz : W.heap.size = w3.heap.size + 1 := by rw [hW]; simp
  have hWb : Below w.heap.size w W := by
    rw [hW]
    exact (Below.draws HB3.out _).alloc HB3.out.size _
  have hr3 : Rd W (.slice (some ⟨w3.heap.size, 0, none⟩) 2 2) (bvs [64, n]) := by
    rw [hW]
    exact lit_rd (cs := #[.int .u8 (64 + (n : Int) / 256 % 64), .int .u8 ((n : Int) % 256)]) (L := [64, n]) (by simp) (by simp [bvs]; omega) (by simp)
  have HN1 := Lib.hid (newReader_any _ [64, n] W hr3)
  have HWb := Lib.hid hWb
  have HWz := Lib.hid hWz
  rw [← hW]
  clear hWb hr3 hW hWz
  refine HN1.out.mono ?_
  rintro e w4 ⟨rfl, hrs, hb⟩
  rw [HWz.out] at hrs ⊢
  have HV := Lib.hid (vec_any (w3.heap.size + 1) [64, n] 0 w4 hrs (by simp) (by simp; omega))
  have hv : vecF [64, n] 0 = ([], [], 3) := by
    have e1 : lenF 64 [n] = (none, [], 3) := by
      have e2 : numV (64 % 64 :: [n].take (2 ^ (64 / 64) - 1)) = n := by simp [numV]
      rw [lenF, if_neg (by decide), if_neg (by simp), e2, lenS1 hn2, if_neg (by decide)]
      rfl
    simp only [vecF, lengthF, e1]
    rfl
  rw [hv] at HV
  have HB4 := Lib.hid (Below.next HWb.out hb)
  have hz4 : w3.heap.size + 1 < w4.heap.size := hrs.lt
  clear hv hrs hb
  go_wp2_with fail
  refine HV.out.mono ?_
  rintro e w5 ⟨v5, rfl, hown, hrs, honly⟩
  obtain ⟨a5, cap5, rfl, _, _, _⟩ := hown.rd
  have HB5 := Lib.hid (HB4.out.trans (honly.below (by have := HB3.out.size; omega) HB4.out.size))
  have HE := Lib.hid (err_any _ _ _ _ hrs)
  clear hown hrs honly
  go_wp2_with fail
  refine HE.out.mono ?_
  rintro e w' ⟨rfl, rfl⟩
  go_wp2_with fail
  go_ret
  exact ⟨rfl, HB5.out⟩
end Go.Proofs.Ytkihcngllhjabaa
