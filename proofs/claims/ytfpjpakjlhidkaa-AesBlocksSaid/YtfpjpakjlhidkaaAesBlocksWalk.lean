/- The walk of the law AesBlocks. -/
import Derived.Test.YtfpjpakjlhidkaaAesRefBlock
namespace Go.Proofs.Ytfpjpakjlhidkaa
open Go.RowKit AesM

set_option maxRecDepth 100000 in
set_option maxHeartbeats 1000000 in
theorem expandPub_wrong (a : Option Addr) (n c : Nat) (h : n ≠ 16) (w : World) :
    Calls Try.prog 17 #[.slice a n c] w fun e w' => e = .returned (.tuple #[.slice none 0 0, .bool false]) ∧ w = w' := by
  have h2 : ((n : Int) != 16) = true := by rw [bne_iff_ne]; omega
  go_enter Try.func17, Try.ntmps17
  go_wp2_with fail
  go_ret2
  exact ⟨rfl, rfl⟩
set_option maxRecDepth 100000 in
set_option maxHeartbeats 1000000 in
theorem expandPub_any (v : Value) (K : List Nat) (w : World) (h : Rd w v (bvs K)) (hK : ∀ n ∈ K, n < 256) (hl : K.length = 16) :
    Calls Try.prog 17 #[v] w fun e w' => ∃ r, e = .returned (.tuple #[r, .bool true]) ∧ Own w' w.heap.size 5 r (bvs (kwords K)) ∧ Below w.heap.size w w' := by
  obtain ⟨a, cap, rfl, _⟩ := id h
  rw [bvs_len, hl] at h ⊢
  have HR := Lib.hid h
  have HL := Lib.hid hl
  clear h hl
  go_enter Try.func17, Try.ntmps17
  go_wp2_with fail
  refine (boxes_any _).mono ?_
  rintro e w1 ⟨rfl, hb1⟩
  have HB := Lib.hid hb1
  have hsz := hb1.size
  clear hb1
  go_wp2_with fail
  refine (expand_any _ K boxL _ (HR.out.below HB.out (Nat.le_refl _)) hK HL.out boxL_len boxL_lt).mono ?_
  rintro e w2 ⟨r, rfl, hown, hb2⟩
  have HO := Lib.hid hown
  have HB2 := Lib.hid hb2
  clear hown hb2
  go_wp2_with fail
  go_ret2
  exact ⟨_, rfl, HO.out.mono hsz, HB.out.trans (HB2.out.mono hsz)⟩

set_option maxRecDepth 100000 in
set_option maxHeartbeats 2000000 in
theorem aesBlocks_walk (v0 : Value) (K : List Nat) (v1 : Value) (M : List Nat) (w : World) (hK : ∀ n ∈ K, n < 256) (rK : Rd w v0 (bvs K)) (hM : ∀ n ∈ M, n < 256) (rM : Rd w v1 (bvs M)) :
    Calls Try.prog 5 #[v0, v1] w fun e w' => e = .returned (.bool true) ∧ Below w.heap.size w w' := by
  obtain ⟨a3, c3, rfl, _⟩ := id rK
  obtain ⟨a4, c4, rfl, _⟩ := id rM
  rw [bvs_len] at rK rM
  rw [bvs_len, bvs_len]
  have HK := Lib.hid rK
  have HM := Lib.hid rM
  clear rK rM
  by_cases hbig : K.length ≤ 60 ∧ M.length ≤ 60
  · obtain ⟨hk60, hm60⟩ := hbig
    by_cases hk : K.length = 16
    · by_cases hm : M.length = 16
      · rw [hk] at HK ⊢
        rw [hm] at HM ⊢
        have K16 := Lib.hid hk
        have M16 := Lib.hid hm
        clear hk hm hk60 hm60
        go_enter Try.func5, Try.ntmps5
        go_wp2_with fail
        refine (alive11 _).mono ?_
        rintro e w1 ⟨rfl, hb1⟩
        have HB1 := Lib.hid hb1
        have hsz1 := hb1.size
        clear hb1
        go_wp2_with fail
        refine (block_any _ _ K M _ (HK.out.below HB1.out (Nat.le_refl _)) (HM.out.below HB1.out (Nat.le_refl _)) hK hM K16.out M16.out).mono ?_
        rintro e w2 ⟨r1, rfl, hr1, hb2⟩
        have HB2 : Hid (Below w.heap.size w w2) := Lib.hid (HB1.out.trans (hb2.mono hsz1))
        have hsz2 := hb2.size
        have HR1 := Lib.hid hr1
        clear hr1 hb2 HB1
        go_wp2_with fail
        refine (expandPub_any _ K _ (HK.out.below HB2.out (Nat.le_refl _)) hK K16.out).mono ?_
        rintro e w3 ⟨r2, rfl, hr2, hb3⟩
        have HB3 : Hid (Below w.heap.size w w3) := Lib.hid (HB2.out.trans (hb3.mono (by omega)))
        have hsz3 := hb3.size
        have HR1' : Hid (Own w3 w1.heap.size 5 r1 (bvs (blk K M))) := Lib.hid (HR1.out.below hb3 (Nat.le_refl _))
        have hkwl := kw_len hK K16.out
        have hkb := kw_lt hK K16.out
        obtain ⟨g2, cp2, cur2, hv2, _, hg2l, _, hcp1, hcp2, _, _, hc2, _⟩ := hr2.out (bvs_ne (by omega))
        rw [bvs_len, hkwl] at hv2 hcp1
        subst hv2
        have HC2 := Lib.hid hc2
        clear hr2 hb3 HB2 HR1 hc2
        go_wp2_with fail
        refine (rboxes_any _).mono ?_
        rintro e w4 ⟨bx, rfl, hbx, hb4⟩
        have HB4 : Hid (Below w.heap.size w w4) := Lib.hid (HB3.out.trans (hb4.mono (by omega)))
        have hsz4 := hb4.size
        have HR4 : Hid (Own w4 w1.heap.size 5 r1 (bvs (blk K M))) := Lib.hid (HR1'.out.below hb4 (Nat.le_refl _))
        have HV4 := Lib.hid hb4
        have HX := Lib.hid hbx
        clear hbx hb4 HB3 HR1'
        go_wp2_with fail
        refine (rwords_any _ _ K _ (HK.out.below HB4.out (Nat.le_refl _)) HX.out.rd hK K16.out).mono ?_
        rintro e w5 ⟨r5, rfl, hgr, hb5⟩
        have HB5 : Hid (Below w.heap.size w w5) := Lib.hid (HB4.out.trans (hb5.mono (by omega)))
        have hsz5 := hb5.size
        have HR5 : Hid (Own w5 w1.heap.size 5 r1 (bvs (blk K M))) := Lib.hid (HR4.out.below hb5 (Nat.le_refl _))
        have HX5 : Hid (Own w5 w3.heap.size 3 bx (nvs boxL)) := Lib.hid (HX.out.below hb5 (Nat.le_refl _))
        have cell2 : ∀ j, j < 176 → w5.cell? ⟨g2, j, none⟩ = some (.int .u8 (((kwords K).getD j 0 : Nat) : Int)) := by
          intro j hj
          have h := HC2.out j _ (bvs_getD (by omega))
          rw [← HV4.out.cell (p := ⟨g2, j, none⟩) (by exact hg2l), ← hb5.cell (p := ⟨g2, j, none⟩) (by simp only; omega)] at h
          exact h
        obtain ⟨go, co, hv5, hco1, hco2, hgol⟩ := hgr.outer (by intro h'; have := congrArg List.length h'; rw [rowsN_len] at this; simp only [List.length_nil] at this; omega)
        rw [rowsN_len] at hco1 hv5
        subst hv5
        have HG := Lib.hid hgr
        have HC5 := Lib.hid cell2
        clear hgr hb5 HB4 HR4 HX HV4 HC2 cell2
        have sz5 : w1.heap.size ≤ w5.heap.size := by omega
        have sz50 : w.heap.size ≤ w5.heap.size := by omega
        go_wp2_with fail
        go_loopg [11] 176 (fun k i wv => ∃ i' n : Nat, i' + k = 176 ∧ i = .int .i64 i' ∧ wv = w5.drewN n)
        case atStart => exact ⟨0, 0, rfl, rfl, rfl⟩
        case round =>
          obtain ⟨i, n, hi, rfl, rfl⟩ := hrel
          have HI := Lib.hid hi
          by_cases hlt : i < 176
          · clear hi
            have hlt' : decide ((i : Int) < 176) = true := by rw [decide_eq_true_iff]; omega
            have q1 := HC5.out i hlt
            obtain ⟨g, cp, r1', r1c⟩ := HG.out.num (i := i / 4) (by omega)
            have q3 := r1c (i % 4) (by omega)
            rw [show 4 * (i / 4) + i % 4 = i from by omega] at q3
            have x1 := getD_lt hkb (by omega) i
            obtain ⟨x, hx⟩ : ∃ x, x = (kwords K).getD i 0 := ⟨_, rfl⟩
            rw [← hx] at q1 q3 x1
            clear hx r1c
            go_wp2_with fail
            go_quiet (fail)
            go_wp2_with fail
            go_roundg (gk - 1)
            case measure => have := HI.out; omega
            case rel => exact ⟨i + 1, _, by have := HI.out; omega, by go_num, rfl⟩
          · obtain rfl : i = 176 := by omega
            clear hi
            obtain ⟨w6, hw6⟩ : ∃ w6, w6 = w5.drewN n := ⟨_, rfl⟩
            have H6 : Hid (Below w5.heap.size w5 w6) := Lib.hid (by rw [hw6]; exact below_drewN' (Below.refl _ _) _)
            have h66 : w6.heap.size = w5.heap.size := by rw [hw6]; rfl
            rw [← hw6]
            have HB6 : Hid (Below w.heap.size w w6) := Lib.hid (HB5.out.trans (H6.out.mono sz50))
            have HR6 := Lib.hid (HR5.out.below H6.out (Nat.le_refl _))
            have HX6 := Lib.hid (HX5.out.below H6.out (Nat.le_refl _))
            have hs6 : w.heap.size ≤ w6.heap.size := by omega
            clear hw6 h66
            go_wp2_with fail
            refine (rblock_any _ _ _ K M _ (HK.out.below HB6.out (Nat.le_refl _)) (HM.out.below HB6.out (Nat.le_refl _)) HX6.out.rd hK hM K16.out M16.out).mono ?_
            rintro e w7 ⟨r7, rfl, hr7, hb7⟩
            have HB7 : Hid (Below w.heap.size w w7) := Lib.hid (HB6.out.trans (hb7.mono hs6))
            have hbl := blk_lt hK K16.out hM M16.out
            have S := same_any r1 r7 (blk K M) (blk K M) w7 (HR6.out.below hb7 (Nat.le_refl _)).rd hr7.rd hbl.2 hbl.2
            rw [decide_eq_true rfl] at S
            have HS := Lib.hid S
            clear S hr7 hb7 hbl
            go_wp2_with fail
            refine HS.out.mono ?_
            rintro e w8 ⟨rfl, n8, rfl⟩
            go_wp2_with fail
            go_ret
            exact ⟨rfl, below_drewN' HB7.out _⟩
      · rw [hk] at HK ⊢
        have hm' : ((M.length : Int) == 16) = false := by rw [beq_eq_false_iff_ne]; omega
        have K16 := Lib.hid hk
        have HMN := Lib.hid hm
        clear hk hm
        go_enter Try.func5, Try.ntmps5
        go_wp2_with fail
        refine (alive11 _).mono ?_
        rintro e w1 ⟨rfl, hb1⟩
        have HB1 := Lib.hid hb1
        have hsz1 := hb1.size
        clear hb1
        go_wp2_with fail
        refine (block_wrong _ _ _ _ _ _ (Or.inr HMN.out) _).mono ?_
        rintro e w2 ⟨rfl, rfl⟩
        go_wp2_with fail
        refine (expandPub_any _ K _ (HK.out.below HB1.out (Nat.le_refl _)) hK K16.out).mono ?_
        rintro e w3 ⟨r2, rfl, hr2, hb3⟩
        have HB3 : Hid (Below w.heap.size w w3) := Lib.hid (HB1.out.trans (hb3.mono (by omega)))
        clear hr2 hb3
        go_wp2_with fail
        go_ret
        exact ⟨rfl, HB3.out⟩
    · have hk' : ((K.length : Int) == 16) = false := by rw [beq_eq_false_iff_ne]; omega
      have HKN := Lib.hid hk
      clear hk
      go_enter Try.func5, Try.ntmps5
      go_wp2_with fail
      refine (alive11 _).mono ?_
      rintro e w1 ⟨rfl, hb1⟩
      have HB1 := Lib.hid hb1
      clear hb1
      go_wp2_with fail
      refine (block_wrong _ _ _ _ _ _ (Or.inl HKN.out) _).mono ?_
      rintro e w2 ⟨rfl, rfl⟩
      go_wp2_with fail
      refine (expandPub_wrong _ _ _ HKN.out _).mono ?_
      rintro e w3 ⟨rfl, rfl⟩
      go_wp2_with fail
      go_ret
      exact ⟨rfl, HB1.out⟩
  · have hd : (60 < K.length) ∨ (K.length ≤ 60 ∧ 60 < M.length) := by omega
    clear hbig
    rcases hd with h1 | ⟨h1, h2⟩
    all_goals
      go_enter Try.func5, Try.ntmps5
      go_wp2_with fail
      refine (alive11 _).mono ?_
      rintro e w1 ⟨rfl, hb1⟩
      have HB1 := Lib.hid hb1
      clear hb1
      go_wp2_with fail
      go_ret
      exact ⟨rfl, HB1.out⟩
end Go.Proofs.Ytfpjpakjlhidkaa
