/- Walks: the law's alive, WireLens. -/
import Derived.Test.YtkihcngllhjabaaWireVec
import Derived.Deep.RegionWith
namespace Go.Proofs.Ytkihcngllhjabaa
open Go.RowKit WireM
set_option linter.unusedVariables false
theorem nil_rd (w : World) : Rd w (.slice none 0 0) (bvs []) := ⟨none, 0, rfl, Nat.le_refl _, Nat.zero_le _, .inl ⟨rfl, fun _ => rfl⟩⟩
theorem lit_rd {w : World} {cs : Array Value} {L : List Nat} {N : Nat} (hN : N = w.heap.size) (h : cs.toList = bvs L) (hm : L.length ≤ 1000) : Rd (w.alloc (.cells cs 5)) (.slice (some ⟨N, 0, none⟩) L.length L.length) (bvs L) := by
  have e : cs.size = L.length := by rw [← Array.length_toList, h, bvs_len]
  have := (Own.full (w := w) (B := w.heap.size) (e := 5) (cs := cs) hN (by omega) (by unfold maxLen; omega) (n := L.length) e.symm).rd
  rw [h] at this
  exact this
set_option maxRecDepth 100000 in
set_option maxHeartbeats 2000000 in
theorem alive01 (w : World) : Calls Try.prog 41 #[] w fun e w' => e = .returned (.bool true) ∧ Below w.heap.size w w' := by
  have P := fun w => putLen_on (.slice none 0 0) [] 64 w (nil_rd w) (by simp) (by omega)
  have e1 : ([] : List Nat) ++ lenB 64 = [64, 64] := rfl
  rw [e1] at P
  have N := fun w v h => newReader_any v [2, 7, 8] w h
  have V := fun B w h => vec_any B [2, 7, 8] 0 w h (by simp) (by simp)
  have e2 : vecF [2, 7, 8] 0 = ([7, 8], [], 0) := by decide +kernel
  rw [e2] at V
  have E := fun B w h => end_any B [] 0 w h
  have e3 : endE [] 0 = 0 := rfl
  simp only [e3] at E
  clear e3
  have HP := Lib.hid P
  have HN := Lib.hid N
  have HV := Lib.hid V
  have HE := Lib.hid E
  clear P N V E e1 e2
  go_enter Try.func41, Try.ntmps41
  go_wp2_with fail
  refine (HP.out _).mono ?_
  rintro e w1 ⟨v1, rfl, hown, hb⟩
  obtain ⟨g, cap, cur, rfl, _, hgl, _, _, _, _, _, hc, _⟩ := hown.out (by simp [bvs])
  have c0 := hc 0 _ rfl
  have c1 := hc 1 _ rfl
  have HB1 := Lib.hid hb
  have hr : Rd (w1.alloc (.cells #[.int .u8 2, .int .u8 7, .int .u8 8] 5)) (.slice (some ⟨w1.heap.size, 0, none⟩) 3 3) (bvs [2, 7, 8]) := lit_rd (cs := #[.int .u8 2, .int .u8 7, .int .u8 8]) (L := [2, 7, 8]) rfl rfl (by simp)
  have HN1 := Lib.hid (HN.out _ _ hr)
  clear hown hb hc hr
  go_wp2_with fail
  refine (HN1.out).mono ?_
  rintro e w2 ⟨rfl, hrs, hb⟩
  have esz : (w1.alloc (.cells #[.int .u8 2, .int .u8 7, .int .u8 8] 5)).heap.size = w1.heap.size + 1 := by simp
  rw [esz] at hrs hb ⊢
  clear esz
  have hb' := ((Below.refl w1.heap.size w1).alloc (Nat.le_refl _) (.cells #[.int .u8 2, .int .u8 7, .int .u8 8] 5)).trans (hb.mono (by omega))
  have c0' := (hb'.cell (p := ⟨g, 0, none⟩) hgl).trans c0
  have c1' := (hb'.cell (p := ⟨g, 1, none⟩) hgl).trans c1
  have HB2 := Lib.hid (Below.next HB1.out hb')
  have HRS := Lib.hid hrs
  have hz := hb.size
  have hgl2 : g < w2.heap.size := by have := hb'.size; omega
  clear hrs hb hb' c0 c1
  go_wp2_with fail
  refine (HV.out _ _ HRS.out).mono ?_
  rintro e w3 ⟨v3, rfl, hown, hrs, honly⟩
  obtain ⟨g3, cap3, cur3, rfl, _, hgl3, _, _, _, _, _, hc3, _⟩ := hown.out (by simp [bvs])
  have d1 := hc3 1 _ rfl
  have hne : g < w1.heap.size + 1 := by omega
  have c0 := (honly.cell (p := ⟨g, 0, none⟩) hne (by have := HRS.out.lt; omega)).trans c0'
  have c1 := (honly.cell (p := ⟨g, 1, none⟩) hne (by have := HRS.out.lt; omega)).trans c1'
  have HB3 := Lib.hid (HB2.out.trans (honly.below (by have := HB1.out.size; omega) HB2.out.size))
  have HE3 := Lib.hid (HE.out _ _ hrs)
  clear hown hc3 hrs honly c0' c1' hne hz
  go_wp2_with fail
  refine HE3.out.mono ?_
  rintro e w' ⟨rfl, rfl⟩
  go_wp2_with fail
  go_ret
  exact ⟨rfl, HB3.out⟩
end Go.Proofs.Ytkihcngllhjabaa
